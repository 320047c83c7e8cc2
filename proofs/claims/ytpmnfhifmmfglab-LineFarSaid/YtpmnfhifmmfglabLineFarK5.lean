/- Texts of the claim LineFar, joined: HRepair, WMosaic. -/
import Derived.Test.YtpmnfhifmmfglabLineFarK1
import Derived.Test.YtpmnfhifmmfglabLineFarK2
import Derived.Test.YtpmnfhifmmfglabLineFarK3
import Derived.Test.YtpmnfhifmmfglabLineFarK4
set_option linter.unusedVariables false
set_option linter.unusedSimpArgs false
set_option linter.unusedSectionVars false
namespace Go.Proofs.Ytpmnfhifmmfglab
open Go.RowKit
theorem all_int : ∀ xs : List Int, (cI .i64).all xs = VI xs
  | [] => rfl
  | x :: xs => by
    have := all_int xs
    simp only [Cod.all, VI, List.flatMap_cons, List.map_cons] at this ⊢
    rw [this]; rfl
theorem RI_of {w : World} {A : Option Addr} {xs : List Int} (h : SL w (cI .i64) A xs) : RI w 0 A xs.length xs := by
  refine ⟨by simp [VI], fun hn => ?_⟩
  obtain ⟨b, o, hA, hc⟩ := h hn
  have hall := all_int xs
  rw [hall] at hc
  refine ⟨b, o, hA, Nat.zero_le _, ?_, hc⟩
  have h0 : (VI xs)[0]? = some (.int .i64 xs[0]) := by simp [VI, List.getElem?_eq_getElem hn]
  exact block_lt_of_cell (hc 0 _ h0)
theorem RS_of {w : World} {A : Option Addr} {l : List (Int × Int)} (h : SL w cII A l) : RS w 0 A l.length l := by
  refine ⟨rfl, fun hn => ?_⟩
  obtain ⟨b, o, hA, hc⟩ := h hn
  have key : ∀ (k : Nat) x y, l[k]? = some (x, y) → (cII.all l)[k * 2]? = some (.int .i64 x) ∧ (cII.all l)[k * 2 + 1]? = some (.int .i64 y) := fun k x y hk => by
    exact ⟨by simpa [cII] using Cod.all_get cII l k 0 (x, y) _ hk rfl, Cod.all_get cII l k 1 (x, y) _ hk rfl⟩
  have h0 := (key 0 l[0].1 l[0].2 (List.getElem?_eq_getElem hn)).1
  refine ⟨b, o, hA, Nat.zero_le _, block_lt_of_cell (hc _ _ h0), fun k x y hk => ?_⟩
  obtain ⟨h1, h2⟩ := key k x y hk
  exact ⟨hc _ _ h1, by have := hc _ _ h2; rwa [← Nat.add_assoc] at this⟩
theorem Mem.ofOI {w w' : World} {A : Option Addr} {n c : Nat} {xs : List Int} (hb : Below w.heap.size w w') (h : OI w' w.heap.size A n c xs) (hn : n ≤ maxLen) : Mem w.heap.size w w' [.row 3 1 A xs.length c ((cI .i64).all xs)] := by
  obtain ⟨g, rfl, rfl, hg, hl, hB⟩ := h
  have hall := all_int xs
  have M1 : Mem w.heap.size w w' [.blk g 3 (VI xs)] := by
    refine (Mem.fin0 hb).cons hB fun g' hg' => ?_
    simp [Ent.foot] at hg'
    subst hg'
    exact ⟨hg, fun i e h => by simp at h⟩
  exact M1.asRow 0 rfl (cI .i64) xs hall hl rfl hn
theorem W_sensor_Repair (N : Nat) (p_W : Int) (p_H : Int) (p_P : List Int) (A_p_P : Option Addr) (c_p_P : Nat) (l : List (Int × Int)) (A_l : Option Addr) (c_l : Nat) (w0 : World) (R_p_P : SL w0 (cI .i64) A_p_P p_P) (C_p_P : p_P.length ≤ c_p_P) (R_l : SL w0 cII A_l l) (C_l : l.length ≤ c_l) (r : Int × Int × List Int × Int) (h : D_sensor_Repair N p_W p_H p_P l = some r) :
    Calls Try.prog 53 #[.agg #[.int .i64 p_W, .int .i64 p_H, .slice A_p_P p_P.length c_p_P], .slice A_l l.length c_l] w0 fun e w' => ∃ v, e = .returned v ∧ ∃ A2 c2, v = .tuple #[.agg #[.int .i64 r.1, .int .i64 r.2.1, .slice A2 r.2.2.1.length c2], .int .i64 r.2.2.2] ∧ Mem w0.heap.size w0 w' [.row 3 1 A2 r.2.2.1.length c2 ((cI .i64).all r.2.2.1)] := by
  unfold D_sensor_Repair at h
  split at h
  · cases h
  rename_i hn
  have hn' : p_P.length ≤ maxLen := by simp only [maxLen]; omega
  have no : ∀ {w' : World} (k : Int), Below w0.heap.size w0 w' → ∃ v, Ending.returned (.tuple #[noPlane, .int .i64 k]) = Ending.returned v ∧ ∃ A2 c2, v = .tuple #[.agg #[.int .i64 (0 : Int), .int .i64 (0 : Int), .slice A2 ([] : List Int).length c2], .int .i64 k] ∧ Mem w0.heap.size w0 w' [.row 3 1 A2 ([] : List Int).length c2 ((cI .i64).all [])] :=
    fun k hb => ⟨_, rfl, none, 0, rfl, Mem.nilrow 3 1 (cI .i64) (Mem.fin0 hb)⟩
  split at h
  · rename_i hf
    cases h
    refine (repair_form p_W p_H A_p_P A_l p_P.length c_p_P l.length c_l p_P l w0 (RI_of R_p_P) (RS_of R_l) hn' hf).mono ?_
    rintro e w' ⟨rfl, hb⟩
    exact no 1 hb
  rename_i hf
  have hf' : planeFine p_W p_H p_P = true := by simpa using hf
  split at h
  · rename_i hm
    cases h
    refine (repair_many p_W p_H A_p_P A_l p_P.length c_p_P l.length c_l p_P l w0 (RI_of R_p_P) (RS_of R_l) hn' hf' hm).mono ?_
    rintro e w' ⟨rfl, hb⟩
    exact no 2 hb
  rename_i hm
  obtain ⟨⟨h1, h2, h3, h4⟩, _, _⟩ := planeFine_iff.1 hf'
  obtain ⟨m, rfl⟩ : ∃ m : Nat, p_W = m := ⟨p_W.toNat, by omega⟩
  have hr := repair_rest p_H A_p_P A_l p_P.length c_p_P l.length c_l p_P l w0 m (RI_of R_p_P) (RS_of R_l) hn' hf' (by omega)
  refine hr.mono ?_
  intro e w' hp
  unfold RepairPost at hp
  split at h
  · rename_i ha
    cases h
    rw [if_neg (by simp [ha])] at hp
    obtain ⟨rfl, hb⟩ := hp
    exact no 3 hb
  · rename_i ha
    cases h
    rw [if_pos (by simpa using ha)] at hp
    obtain ⟨A', c', rfl, ⟨_, ho⟩, hb⟩ := hp
    have hl : ((List.range p_P.length).map (repairL (m : Int) p_H l p_P)).length = p_P.length := by simp
    refine ⟨_, rfl, A', c', by rw [hl], Mem.ofOI hb ho hn'⟩
end Go.Proofs.Ytpmnfhifmmfglab

namespace Go.Proofs.Ytpmnfhifmmfglab
open Go.RowKit
set_option maxRecDepth 100000 in
set_option maxHeartbeats 4000000 in
theorem W_mosaic_pixel (N : Nat) (d_W : Int) (d_H : Int) (d_P : List Int) (A_d_P : Option Addr) (c_d_P : Nat) (o : Int) (p2 : Int) (p3 : Int) (w0 : World) (R_d_P : SL w0 (cI .i64) A_d_P d_P) (C_d_P : d_P.length ≤ c_d_P) (r : Int × Int × Int) (h : D_mosaic_pixel N d_W d_H d_P o p2 p3 = some r) :
    Calls Try.prog 105 #[.agg #[I d_W, I d_H, .slice A_d_P d_P.length c_d_P], I o, I p2, I p3] w0 fun e w' => ∃ v, e = .returned v ∧ v = .agg #[I r.1, I r.2.1, I r.2.2] ∧ Mem w0.heap.size w0 w' [] := by
  refine Calls_marks Try.func105 rfl Try.ntmps105 rfl ?_
  intro a K
  have M := Mem.start w0
  have K : Kn a 92 [(0, .agg #[I d_W, I d_H, .slice A_d_P d_P.length c_d_P]), (1, I o), (2, I p2), (3, I p3)] := K
  unfold D_mosaic_pixel at h
  refine wp_seq (X_reg ?_)
  refine X_a K (ac_box rfl K rfl (cs := [I d_W, I d_H, .slice A_d_P d_P.length c_d_P]) rfl M) ?_
  clear K M; rintro _ a w ⟨g_x, rfl, M⟩ K
  refine X_a K (ac_box rfl K rfl (cs := [I o]) rfl M) ?_
  clear K M; rintro _ a w ⟨g_x2, rfl, M⟩ K
  refine X_a K (ac_alloc rfl z34 M) ?_
  clear K M; rintro _ a w ⟨g_x3, rfl, M⟩ K
  refine wpList_nil (then_n (wp_seq (X_reg ?_)))
  refine X_a K (ac_alloc rfl z34 M) ?_
  clear K M; rintro _ a w ⟨g_x4, rfl, M⟩ K
  refine X_a K (ac_alloc rfl z34 M) ?_
  clear K M; rintro _ a w ⟨g_x5, rfl, M⟩ K
  refine wpList_nil (then_n (wp_seq (wp_seq (X_reg ?_))))
  refine X_r K (rd_ldA rfl ty45 K rfl (inM 4 rfl) rfl rfl) M ?_; clear K
  iterate 2 (refine Y_o M ?_)
  intro a K
  refine X_inl (vs := [.agg #[I d_W, I d_H, .slice A_d_P d_P.length c_d_P], I p2, I p3]) (cap := []) K (want_no rfl) rfl rfl rfl fok106 rfl rfl ?_; clear K
  refine X_enter Try.func106 rfl Try.ntmps106 rfl ?_
  intro a K
  have K : Kn a 8 [(0, .agg #[I d_W, I d_H, .slice A_d_P d_P.length c_d_P]), (1, I p2), (2, I p3)] := K
  refine wp_seq (X_reg ?_)
  refine X_a K (ac_box rfl K rfl (cs := [I d_W, I d_H, .slice A_d_P d_P.length c_d_P]) rfl M) ?_
  clear K M; rintro _ a w ⟨g_p, rfl, M⟩ K
  refine X_a K (ac_box rfl K rfl (cs := [I p2]) rfl M) ?_
  clear K M; rintro _ a w ⟨g_x6, rfl, M⟩ K
  refine X_a K (ac_box rfl K rfl (cs := [I p3]) rfl M) ?_
  clear K M; rintro _ a w ⟨g_y, rfl, M⟩ K
  refine X_o K M ?_; clear K; intro a K
  refine wpList_nil (then_n (wp_seq (X_reg ?_)))
  refine X_r K (rd_func rfl K (vs := [.pointer (some ⟨g_y, 0, none⟩), .pointer (some ⟨g_p, 0, none⟩), .pointer (some ⟨g_x6, 0, none⟩)]) rfl) M ?_; clear K
  refine Y_o M ?_; intro a K
  refine wpList_nil (then_n (wp_ret ?_))
  refine ret1 K rfl (res_tmp K rfl) ⟨_, rfl, ?_⟩; clear K; intro a K
  refine wpList_nil (then_n (wp_block ?_))
  obtain ⟨hC, h⟩ := cond_some h
  replace K : Kn a 92 [(2, I p2), (3, I p3), (4, .pointer (some ⟨g_x, 0, none⟩)), (5, .pointer (some ⟨g_x2, 0, none⟩)), (8, .pointer (some ⟨g_x3, 0, none⟩)), (9, .pointer (some ⟨g_x4, 0, none⟩)), (10, .pointer (some ⟨g_x5, 0, none⟩)), (22, .func (.func 107) #[] #[.pointer (some ⟨g_y, 0, none⟩), .pointer (some ⟨g_p, 0, none⟩), .pointer (some ⟨g_x6, 0, none⟩)])] := K.pick [2,3,4,5,8,9,10,22]
  have hkL : ∀ k ∈ [g_p, g_x6, g_y], k < _ := fun k hk => by
    simp only [List.mem_cons, List.not_mem_nil, or_false] at hk
    rcases hk with rfl | rfl | rfl
    · exact (M.blkAt (i := 2) rfl).lt
    · exact (M.blkAt (i := 1) rfl).lt
    exact (M.blkAt (i := 0) rfl).lt
  refine wpIn_wide.1 (wpIn_rangeFunc_ownF (F := Fence.wide) (n := 3) rfl (by decide) (gf := 107) (lb := #[.pointer (some ⟨g_y, 0, none⟩), .pointer (some ⟨g_p, 0, none⟩), .pointer (some ⟨g_x6, 0, none⟩)]) (K.ev (x := .tmp 22) rfl) trivial (enters_fok fok107)
    (around1_stops 2 (by decide) d_W d_H p2 p3 A_d_P d_P.length c_d_P g_p g_x6 g_y hC.2.2.1 hC.2.2.2.2.2.1 ⟨hC.1, hC.2.1⟩ ⟨hC.2.2.2.1, hC.2.2.2.2.1⟩ _ (M.blkAt (i := 2) rfl) (M.blkAt (i := 1) rfl) (M.blkAt (i := 0) rfl)) keepB_trans (fun V l o o' hl _ _ _ k hk _ => World.putObj_heap_other (by have := hkL k hk; omega)) (Below.refl _ _) (fun _ => rfl)
    (fun (pre : List (InP d_W d_H)) V => Below w0.heap.size w0 V ∧ ∀ (i : Nat) (e : Ent), ([.blk g_y 3 [I p3], .blk g_x6 3 [I p2], .blk g_p 45 [I d_W, I d_H, .slice A_d_P d_P.length c_d_P], .blk g_x5 34 [I ((List.foldl (D_mosaic_pixel_s N d_W d_P o) (0, 0, 0, 0, 0, 0) (pre.map (·.1)))).1, I ((List.foldl (D_mosaic_pixel_s N d_W d_P o) (0, 0, 0, 0, 0, 0) (pre.map (·.1)))).2.1, I ((List.foldl (D_mosaic_pixel_s N d_W d_P o) (0, 0, 0, 0, 0, 0) (pre.map (·.1)))).2.2.1], .blk g_x4 34 [I ((List.foldl (D_mosaic_pixel_s N d_W d_P o) (0, 0, 0, 0, 0, 0) (pre.map (·.1)))).2.2.2.1, I ((List.foldl (D_mosaic_pixel_s N d_W d_P o) (0, 0, 0, 0, 0, 0) (pre.map (·.1)))).2.2.2.2.1, I ((List.foldl (D_mosaic_pixel_s N d_W d_P o) (0, 0, 0, 0, 0, 0) (pre.map (·.1)))).2.2.2.2.2], .blk g_x3 34 [I 0, I 0, I 0], .blk g_x2 3 [I o], .blk g_x 45 [I d_W, I d_H, .slice A_d_P d_P.length c_d_P]] : List Ent)[i]? = some e → Ent.holds V e) (fun _ _ _ => False)
    (fun pre V V' row hs hg hr => holds_own (β := Int × Int × Int × Int × Int × Int) (fun s => [.blk g_y 3 [I p3], .blk g_x6 3 [I p2], .blk g_p 45 [I d_W, I d_H, .slice A_d_P d_P.length c_d_P], .blk g_x5 34 [I s.1, I s.2.1, I s.2.2.1], .blk g_x4 34 [I s.2.2.2.1, I s.2.2.2.2.1, I s.2.2.2.2.2], .blk g_x3 34 [I 0, I 0, I 0], .blk g_x2 3 [I o], .blk g_x 45 [I d_W, I d_H, .slice A_d_P d_P.length c_d_P]]) M rfl (fun _ => rfl) (List.foldl (D_mosaic_pixel_s N d_W d_P o) (0, 0, 0, 0, 0, 0) (pre.map (·.1))) V V' row hs hg hr) (fun c s V V' row hs _ _ => hs) ⟨M.low, fun i e h => M.has i e h⟩
    (fun q => ((({ tmps := (#[23, 24].zip (encP d_W d_H q)).foldl (fun t (p, v) => t.setIfInBounds p v) a.tmps, defers := [] } : Act).put (some 11) (({ tmps := (#[23, 24].zip (encP d_W d_H q)).foldl (fun t (p, v) => t.setIfInBounds p v) a.tmps, defers := [] } : Act).eval (.tmp 23))).put (some 12) ((({ tmps := (#[23, 24].zip (encP d_W d_H q)).foldl (fun t (p, v) => t.setIfInBounds p v) a.tmps, defers := [] } : Act).put (some 11) (({ tmps := (#[23, 24].zip (encP d_W d_H q)).foldl (fun t (p, v) => t.setIfInBounds p v) a.tmps, defers := [] } : Act).eval (.tmp 23))).eval (.tmp 24)))) ?_ ?_ ?_ (fun D c pre V _ _ h _ => h.elim))
  · intro lp q V K2 hK2
    refine wpIn_seq ?_
    refine X_regI (by kernel_rfl) (fun ⟨_, _, h⟩ => h) ?_
    refine A_asg rfl rfl ?_
    refine wpList_nil (then_n ?_)
    refine X_regI (by kernel_rfl) (fun ⟨_, _, h⟩ => h) ?_
    refine A_asg rfl rfl ?_
    refine wpList_nil ?_
    exact hK2
  · clear h
    rintro lp pre ⟨⟨u, v⟩, hq⟩ V ⟨hbV, hasV⟩ _
    obtain ⟨s, hs⟩ : ∃ s, List.foldl (D_mosaic_pixel_s N d_W d_P o) (0, 0, 0, 0, 0, 0) (pre.map (·.1)) = s := ⟨_, rfl⟩
    simp only [hs] at hasV
    obtain ⟨x_R, x_G, x_B, x_R2, x_G2, x_B2⟩ := s
    have MV : Mem w0.heap.size V V [.blk g_y 3 [I p3], .blk g_x6 3 [I p2], .blk g_p 45 [I d_W, I d_H, .slice A_d_P d_P.length c_d_P], .blk g_x5 34 [I x_R, I x_G, I x_B], .blk g_x4 34 [I x_R2, I x_G2, I x_B2], .blk g_x3 34 [I 0, I 0, I 0], .blk g_x2 3 [I o], .blk g_x 45 [I d_W, I d_H, .slice A_d_P d_P.length c_d_P]] := M.round rfl hbV hasV
    have K : Kn ((({ tmps := (#[23, 24].zip (encP d_W d_H ⟨(u, v), hq⟩)).foldl (fun t (p, v) => t.setIfInBounds p v) a.tmps, defers := [] } : Act).put (some 11) (({ tmps := (#[23, 24].zip (encP d_W d_H ⟨(u, v), hq⟩)).foldl (fun t (p, v) => t.setIfInBounds p v) a.tmps, defers := [] } : Act).eval (.tmp 23))).put (some 12) ((({ tmps := (#[23, 24].zip (encP d_W d_H ⟨(u, v), hq⟩)).foldl (fun t (p, v) => t.setIfInBounds p v) a.tmps, defers := [] } : Act).put (some 11) (({ tmps := (#[23, 24].zip (encP d_W d_H ⟨(u, v), hq⟩)).foldl (fun t (p, v) => t.setIfInBounds p v) a.tmps, defers := [] } : Act).eval (.tmp 23))).eval (.tmp 24))) 92 [(12, I v), (11, I u), (24, I v), (23, I u), (2, I p2), (3, I p3), (4, .pointer (some ⟨g_x, 0, none⟩)), (5, .pointer (some ⟨g_x2, 0, none⟩)), (8, .pointer (some ⟨g_x3, 0, none⟩)), (9, .pointer (some ⟨g_x4, 0, none⟩)), (10, .pointer (some ⟨g_x5, 0, none⟩)), (22, .func (.func 107) #[] #[.pointer (some ⟨g_y, 0, none⟩), .pointer (some ⟨g_p, 0, none⟩), .pointer (some ⟨g_x6, 0, none⟩)])] := (K.ps2 (i := 23) (j := 24) (u := I u) (v := I v) rfl rfl).asg2 rfl rfl rfl rfl
    clear M; have M := MV
    obtain ⟨r, hr⟩ := D_mosaic_pixel_b_some N d_W d_P o hC hq x_R x_G x_B x_R2 x_G2 x_B2
    have h := hr
    unfold D_mosaic_pixel_b at h
    refine wpIn_block ?_
    refine wpIn_seq ?_
    refine X_regI (by kernel_rfl) (fun ⟨_, _, h⟩ => h) ?_
    refine X_r K (rd_ldC rfl sc3 K rfl (inM 6 rfl) rfl) M ?_; clear K
    iterate 2 (refine Y_o M ?_)
    intro a K
    obtain ⟨r3, h_r3, h⟩ := obind h
    refine X_a K (ac_call (vs := [I o, I u, I v]) (cap := []) rfl fok74 K rfl rfl (W_sensor_Colour N o u v _  r3 h_r3)) ?_
    have M0 := M; clear K M; rintro _ a w ⟨rfl, M⟩ K
    replace M := M0.call M; clear M0
    refine X_o K M ?_; clear K
    iterate 4 (refine Y_o M ?_)
    intro a K
    refine wpList_nil (then_n ?_)
    refine wpIn_seq ?_
    refine XI_region_tl (fun w => Mem _ _ w _) [0,1,0,0,0,0,0,0,0,0,0,0,0,0,0,0,2] (by kernel_rfl) (by kernel_rfl) (by kernel_rfl) (fun ⟨_, _, h⟩ => h) M.drew ?_
    replace M := M.drew
    refine T_o K ?_; clear K; intro a K
    refine T_inl (vs := [.pointer (some ⟨g_x4, 0, none⟩), I r3.1]) (cap := []) K (want_no rfl) rfl rfl rfl fok75 rfl rfl ?_; clear K
    refine X_enter Try.func75 rfl Try.ntmps75 rfl ?_
    intro a K
    have K : Kn a 19 [(0, .pointer (some ⟨g_x4, 0, none⟩)), (1, I r3.1)] := K
    refine wp_seq (X_reg ?_)
    refine X_o K M ?_; clear K; intro a K
    refine wpList_nil (then_n (wp_seq (wp_seq (X_reg ?_))))
    refine X_o K M ?_; clear K; intro a K
    refine wpList_nil (then_n (wp_block (wp_seq (X_reg ?_))))
    refine X_o K M ?_; clear K
    refine Y_o M ?_; intro a K
    refine wpList_nil (then_n ?_)
    refine X_cond K rfl (fun hb => ?_) (fun hb => ?_)
    · have h := ctrue hb h
      refine wp_seq (X_reg ?_)
      refine X_o K M ?_; clear K
      refine Y_o M ?_
      refine Y_r (fun _ K => rd_field rfl fld34_0 K rfl) M ?_
      refine Y_o M ?_; intro a K
      refine wpList_nil (then_n (wp_ret (inb_r (then_r ?_))))
      refine ret1 K rfl (res_tmp K rfl) ⟨_, rfl, ?_⟩; clear K; intro a K
      refine ⟨M.pick [0,1,2,3,4,5,6,7] (by decide), ?_⟩
      refine T_o K ?_; clear K
      refine U_r (fun _ K => rd_ldC rfl sc3 K rfl (inM 4 rfl) rfl) ?_
      refine U_r (fun _ K => rd_field rfl fld45_2 K rfl) ?_
      refine U_r (fun _ K => rd_ldC rfl sc43 K rfl (inM 7 rfl) rfl) ?_
      refine U_o ?_
      refine U_r (fun _ K => rd_field rfl fld45_0 K rfl) ?_
      refine U_r (fun _ K => rd_ldC rfl sc3 K rfl (inM 7 rfl) rfl) ?_
      iterate 3 (refine U_o ?_)
      obtain ⟨e4, h_e4, h⟩ := obind h
      refine U_r (fun _ K => rd_ix rfl sl43 K rfl rfl (inA2 hbV R_d_P) h_e4) ?_
      refine U_r (fun _ K => rd_elC rfl sc3 K rfl rfl (inA2 hbV R_d_P) h_e4 rfl) ?_
      iterate 2 (refine U_o ?_)
      intro a K
      refine T_b K (ac_storeC rfl sc3 K rfl rfl rfl 4 M rfl rfl) ?_
      clear K M; rintro _ a w M K
      refine T_end ?_
      refine then_n ?_
      refine X_regI (by kernel_rfl) (fun ⟨_, _, h⟩ => h) ?_
      refine X_o K M ?_; clear K; intro a K
      refine X_inl (vs := [.pointer (some ⟨g_x5, 0, none⟩), I r3.1]) (cap := []) K (want_no rfl) rfl rfl rfl fok75 rfl rfl ?_; clear K
      refine X_enter Try.func75 rfl Try.ntmps75 rfl ?_
      intro a K
      have K : Kn a 19 [(0, .pointer (some ⟨g_x5, 0, none⟩)), (1, I r3.1)] := K
      refine wp_seq (X_reg ?_)
      refine X_o K M ?_; clear K; intro a K
      refine wpList_nil (then_n (wp_seq (wp_seq (X_reg ?_))))
      refine X_o K M ?_; clear K; intro a K
      refine wpList_nil (then_n (wp_block (wp_seq (X_reg ?_))))
      refine X_o K M ?_; clear K
      refine Y_o M ?_; intro a K
      refine wpList_nil (then_n ?_)
      refine X_cond K rfl (fun hb => ?_) (fun hb => ?_)
      · have h := ctrue hb h
        refine wp_seq (X_reg ?_)
        refine X_o K M ?_; clear K
        refine Y_o M ?_
        refine Y_r (fun _ K => rd_field rfl fld34_0 K rfl) M ?_
        refine Y_o M ?_; intro a K
        refine wpList_nil (then_n (wp_ret (inb_r (then_r ?_))))
        refine ret1 K rfl (res_tmp K rfl) ⟨_, rfl, ?_⟩; clear K; intro a K
        refine X_o K M ?_; clear K
        refine Y_r (fun _ K => rd_ldC rfl sc3 K rfl (inM 3 rfl) rfl) M ?_
        iterate 2 (refine Y_o M ?_)
        intro a K
        refine X_b K (ac_storeC rfl sc3 K rfl rfl rfl 3 M rfl rfl) ?_
        clear K M; rintro _ a w M K
        refine wpList_nil (inb_n ?_)
        cases h
        refine ⟨M.others, fun k hk _ => ?_, hbV.trans M.low, fun i e hi => ?_⟩
        · simp only [List.mem_cons, List.not_mem_nil, or_false] at hk
          rcases hk with rfl | rfl | rfl
          · exact (show _ = _ from M.blkAt (i := 2) rfl).trans (show _ = _ from MV.blkAt (i := 2) rfl).symm
          · exact (show _ = _ from M.blkAt (i := 1) rfl).trans (show _ = _ from MV.blkAt (i := 1) rfl).symm
          exact (show _ = _ from M.blkAt (i := 0) rfl).trans (show _ = _ from MV.blkAt (i := 0) rfl).symm
        have hS := D_mosaic_pixel_fold N d_W d_P o pre ⟨(u, v), hq⟩ hs hr
        simp only [hS] at hi
        exact (M.pick [0,1,2,3,4,5,6,7] (by decide)).has i e hi
      have h := cfalse hb h
      refine wp_seq (X_reg ?_)
      refine X_o K M ?_; clear K
      refine Y_o M ?_; intro a K
      refine wpList_nil (then_n ?_)
      refine X_cond K rfl (fun hb => ?_) (fun hb => ?_)
      · have h := ctrue hb h
        refine wp_seq (X_reg ?_)
        refine X_o K M ?_; clear K
        refine Y_o M ?_
        refine Y_r (fun _ K => rd_field rfl fld34_1 K rfl) M ?_
        refine Y_o M ?_; intro a K
        refine wpList_nil (then_n (wp_ret (inb_r (then_r ?_))))
        refine ret1 K rfl (res_tmp K rfl) ⟨_, rfl, ?_⟩; clear K; intro a K
        refine X_o K M ?_; clear K
        refine Y_r (fun _ K => rd_ldC rfl sc3 K rfl (inM 3 rfl) rfl) M ?_
        iterate 2 (refine Y_o M ?_)
        intro a K
        refine X_b K (ac_storeC rfl sc3 K rfl rfl rfl 3 M rfl rfl) ?_
        clear K M; rintro _ a w M K
        refine wpList_nil (inb_n ?_)
        cases h
        refine ⟨M.others, fun k hk _ => ?_, hbV.trans M.low, fun i e hi => ?_⟩
        · simp only [List.mem_cons, List.not_mem_nil, or_false] at hk
          rcases hk with rfl | rfl | rfl
          · exact (show _ = _ from M.blkAt (i := 2) rfl).trans (show _ = _ from MV.blkAt (i := 2) rfl).symm
          · exact (show _ = _ from M.blkAt (i := 1) rfl).trans (show _ = _ from MV.blkAt (i := 1) rfl).symm
          exact (show _ = _ from M.blkAt (i := 0) rfl).trans (show _ = _ from MV.blkAt (i := 0) rfl).symm
        have hS := D_mosaic_pixel_fold N d_W d_P o pre ⟨(u, v), hq⟩ hs hr
        simp only [hS] at hi
        exact (M.pick [0,1,2,3,4,5,6,7] (by decide)).has i e hi
      have h := cfalse hb h
      refine wp_skip (inb_n (then_n (wp_seq (X_reg ?_))))
      refine X_o K M ?_; clear K
      refine Y_o M ?_
      refine Y_r (fun _ K => rd_field rfl fld34_2 K rfl) M ?_
      refine Y_o M ?_; intro a K
      refine wpList_nil (then_n (wp_ret ?_))
      refine ret1 K rfl (res_tmp K rfl) ⟨_, rfl, ?_⟩; clear K; intro a K
      refine X_o K M ?_; clear K
      refine Y_r (fun _ K => rd_ldC rfl sc3 K rfl (inM 3 rfl) rfl) M ?_
      iterate 2 (refine Y_o M ?_)
      intro a K
      refine X_b K (ac_storeC rfl sc3 K rfl rfl rfl 3 M rfl rfl) ?_
      clear K M; rintro _ a w M K
      refine wpList_nil (inb_n ?_)
      cases h
      refine ⟨M.others, fun k hk _ => ?_, hbV.trans M.low, fun i e hi => ?_⟩
      · simp only [List.mem_cons, List.not_mem_nil, or_false] at hk
        rcases hk with rfl | rfl | rfl
        · exact (show _ = _ from M.blkAt (i := 2) rfl).trans (show _ = _ from MV.blkAt (i := 2) rfl).symm
        · exact (show _ = _ from M.blkAt (i := 1) rfl).trans (show _ = _ from MV.blkAt (i := 1) rfl).symm
        exact (show _ = _ from M.blkAt (i := 0) rfl).trans (show _ = _ from MV.blkAt (i := 0) rfl).symm
      have hS := D_mosaic_pixel_fold N d_W d_P o pre ⟨(u, v), hq⟩ hs hr
      simp only [hS] at hi
      exact (M.pick [0,1,2,3,4,5,6,7] (by decide)).has i e hi
    have h := cfalse hb h
    refine wp_seq (X_reg ?_)
    refine X_o K M ?_; clear K
    refine Y_o M ?_; intro a K
    refine wpList_nil (then_n ?_)
    refine X_cond K rfl (fun hb => ?_) (fun hb => ?_)
    · have h := ctrue hb h
      refine wp_seq (X_reg ?_)
      refine X_o K M ?_; clear K
      refine Y_o M ?_
      refine Y_r (fun _ K => rd_field rfl fld34_1 K rfl) M ?_
      refine Y_o M ?_; intro a K
      refine wpList_nil (then_n (wp_ret (inb_r (then_r ?_))))
      refine ret1 K rfl (res_tmp K rfl) ⟨_, rfl, ?_⟩; clear K; intro a K
      refine ⟨M.pick [0,1,2,3,4,5,6,7] (by decide), ?_⟩
      refine T_o K ?_; clear K
      refine U_r (fun _ K => rd_ldC rfl sc3 K rfl (inM 4 rfl) rfl) ?_
      refine U_r (fun _ K => rd_field rfl fld45_2 K rfl) ?_
      refine U_r (fun _ K => rd_ldC rfl sc43 K rfl (inM 7 rfl) rfl) ?_
      refine U_o ?_
      refine U_r (fun _ K => rd_field rfl fld45_0 K rfl) ?_
      refine U_r (fun _ K => rd_ldC rfl sc3 K rfl (inM 7 rfl) rfl) ?_
      iterate 3 (refine U_o ?_)
      obtain ⟨e5, h_e5, h⟩ := obind h
      refine U_r (fun _ K => rd_ix rfl sl43 K rfl rfl (inA2 hbV R_d_P) h_e5) ?_
      refine U_r (fun _ K => rd_elC rfl sc3 K rfl rfl (inA2 hbV R_d_P) h_e5 rfl) ?_
      iterate 2 (refine U_o ?_)
      intro a K
      refine T_b K (ac_storeC rfl sc3 K rfl rfl rfl 4 M rfl rfl) ?_
      clear K M; rintro _ a w M K
      refine T_end ?_
      refine then_n ?_
      refine X_regI (by kernel_rfl) (fun ⟨_, _, h⟩ => h) ?_
      refine X_o K M ?_; clear K; intro a K
      refine X_inl (vs := [.pointer (some ⟨g_x5, 0, none⟩), I r3.1]) (cap := []) K (want_no rfl) rfl rfl rfl fok75 rfl rfl ?_; clear K
      refine X_enter Try.func75 rfl Try.ntmps75 rfl ?_
      intro a K
      have K : Kn a 19 [(0, .pointer (some ⟨g_x5, 0, none⟩)), (1, I r3.1)] := K
      refine wp_seq (X_reg ?_)
      refine X_o K M ?_; clear K; intro a K
      refine wpList_nil (then_n (wp_seq (wp_seq (X_reg ?_))))
      refine X_o K M ?_; clear K; intro a K
      refine wpList_nil (then_n (wp_block (wp_seq (X_reg ?_))))
      refine X_o K M ?_; clear K
      refine Y_o M ?_; intro a K
      refine wpList_nil (then_n ?_)
      refine X_cond K rfl (fun hb => ?_) (fun hb => ?_)
      · have h := ctrue hb h
        refine wp_seq (X_reg ?_)
        refine X_o K M ?_; clear K
        refine Y_o M ?_
        refine Y_r (fun _ K => rd_field rfl fld34_0 K rfl) M ?_
        refine Y_o M ?_; intro a K
        refine wpList_nil (then_n (wp_ret (inb_r (then_r ?_))))
        refine ret1 K rfl (res_tmp K rfl) ⟨_, rfl, ?_⟩; clear K; intro a K
        refine X_o K M ?_; clear K
        refine Y_r (fun _ K => rd_ldC rfl sc3 K rfl (inM 3 rfl) rfl) M ?_
        iterate 2 (refine Y_o M ?_)
        intro a K
        refine X_b K (ac_storeC rfl sc3 K rfl rfl rfl 3 M rfl rfl) ?_
        clear K M; rintro _ a w M K
        refine wpList_nil (inb_n ?_)
        cases h
        refine ⟨M.others, fun k hk _ => ?_, hbV.trans M.low, fun i e hi => ?_⟩
        · simp only [List.mem_cons, List.not_mem_nil, or_false] at hk
          rcases hk with rfl | rfl | rfl
          · exact (show _ = _ from M.blkAt (i := 2) rfl).trans (show _ = _ from MV.blkAt (i := 2) rfl).symm
          · exact (show _ = _ from M.blkAt (i := 1) rfl).trans (show _ = _ from MV.blkAt (i := 1) rfl).symm
          exact (show _ = _ from M.blkAt (i := 0) rfl).trans (show _ = _ from MV.blkAt (i := 0) rfl).symm
        have hS := D_mosaic_pixel_fold N d_W d_P o pre ⟨(u, v), hq⟩ hs hr
        simp only [hS] at hi
        exact (M.pick [0,1,2,3,4,5,6,7] (by decide)).has i e hi
      have h := cfalse hb h
      refine wp_seq (X_reg ?_)
      refine X_o K M ?_; clear K
      refine Y_o M ?_; intro a K
      refine wpList_nil (then_n ?_)
      refine X_cond K rfl (fun hb => ?_) (fun hb => ?_)
      · have h := ctrue hb h
        refine wp_seq (X_reg ?_)
        refine X_o K M ?_; clear K
        refine Y_o M ?_
        refine Y_r (fun _ K => rd_field rfl fld34_1 K rfl) M ?_
        refine Y_o M ?_; intro a K
        refine wpList_nil (then_n (wp_ret (inb_r (then_r ?_))))
        refine ret1 K rfl (res_tmp K rfl) ⟨_, rfl, ?_⟩; clear K; intro a K
        refine X_o K M ?_; clear K
        refine Y_r (fun _ K => rd_ldC rfl sc3 K rfl (inM 3 rfl) rfl) M ?_
        iterate 2 (refine Y_o M ?_)
        intro a K
        refine X_b K (ac_storeC rfl sc3 K rfl rfl rfl 3 M rfl rfl) ?_
        clear K M; rintro _ a w M K
        refine wpList_nil (inb_n ?_)
        cases h
        refine ⟨M.others, fun k hk _ => ?_, hbV.trans M.low, fun i e hi => ?_⟩
        · simp only [List.mem_cons, List.not_mem_nil, or_false] at hk
          rcases hk with rfl | rfl | rfl
          · exact (show _ = _ from M.blkAt (i := 2) rfl).trans (show _ = _ from MV.blkAt (i := 2) rfl).symm
          · exact (show _ = _ from M.blkAt (i := 1) rfl).trans (show _ = _ from MV.blkAt (i := 1) rfl).symm
          exact (show _ = _ from M.blkAt (i := 0) rfl).trans (show _ = _ from MV.blkAt (i := 0) rfl).symm
        have hS := D_mosaic_pixel_fold N d_W d_P o pre ⟨(u, v), hq⟩ hs hr
        simp only [hS] at hi
        exact (M.pick [0,1,2,3,4,5,6,7] (by decide)).has i e hi
      have h := cfalse hb h
      refine wp_skip (inb_n (then_n (wp_seq (X_reg ?_))))
      refine X_o K M ?_; clear K
      refine Y_o M ?_
      refine Y_r (fun _ K => rd_field rfl fld34_2 K rfl) M ?_
      refine Y_o M ?_; intro a K
      refine wpList_nil (then_n (wp_ret ?_))
      refine ret1 K rfl (res_tmp K rfl) ⟨_, rfl, ?_⟩; clear K; intro a K
      refine X_o K M ?_; clear K
      refine Y_r (fun _ K => rd_ldC rfl sc3 K rfl (inM 3 rfl) rfl) M ?_
      iterate 2 (refine Y_o M ?_)
      intro a K
      refine X_b K (ac_storeC rfl sc3 K rfl rfl rfl 3 M rfl rfl) ?_
      clear K M; rintro _ a w M K
      refine wpList_nil (inb_n ?_)
      cases h
      refine ⟨M.others, fun k hk _ => ?_, hbV.trans M.low, fun i e hi => ?_⟩
      · simp only [List.mem_cons, List.not_mem_nil, or_false] at hk
        rcases hk with rfl | rfl | rfl
        · exact (show _ = _ from M.blkAt (i := 2) rfl).trans (show _ = _ from MV.blkAt (i := 2) rfl).symm
        · exact (show _ = _ from M.blkAt (i := 1) rfl).trans (show _ = _ from MV.blkAt (i := 1) rfl).symm
        exact (show _ = _ from M.blkAt (i := 0) rfl).trans (show _ = _ from MV.blkAt (i := 0) rfl).symm
      have hS := D_mosaic_pixel_fold N d_W d_P o pre ⟨(u, v), hq⟩ hs hr
      simp only [hS] at hi
      exact (M.pick [0,1,2,3,4,5,6,7] (by decide)).has i e hi
    have h := cfalse hb h
    refine wp_skip (inb_n (then_n (wp_seq (X_reg ?_))))
    refine X_o K M ?_; clear K
    refine Y_o M ?_
    refine Y_r (fun _ K => rd_field rfl fld34_2 K rfl) M ?_
    refine Y_o M ?_; intro a K
    refine wpList_nil (then_n (wp_ret ?_))
    refine ret1 K rfl (res_tmp K rfl) ⟨_, rfl, ?_⟩; clear K; intro a K
    refine ⟨M.pick [0,1,2,3,4,5,6,7] (by decide), ?_⟩
    refine T_o K ?_; clear K
    refine U_r (fun _ K => rd_ldC rfl sc3 K rfl (inM 4 rfl) rfl) ?_
    refine U_r (fun _ K => rd_field rfl fld45_2 K rfl) ?_
    refine U_r (fun _ K => rd_ldC rfl sc43 K rfl (inM 7 rfl) rfl) ?_
    refine U_o ?_
    refine U_r (fun _ K => rd_field rfl fld45_0 K rfl) ?_
    refine U_r (fun _ K => rd_ldC rfl sc3 K rfl (inM 7 rfl) rfl) ?_
    iterate 3 (refine U_o ?_)
    obtain ⟨e6, h_e6, h⟩ := obind h
    refine U_r (fun _ K => rd_ix rfl sl43 K rfl rfl (inA2 hbV R_d_P) h_e6) ?_
    refine U_r (fun _ K => rd_elC rfl sc3 K rfl rfl (inA2 hbV R_d_P) h_e6 rfl) ?_
    iterate 2 (refine U_o ?_)
    intro a K
    refine T_b K (ac_storeC rfl sc3 K rfl rfl rfl 4 M rfl rfl) ?_
    clear K M; rintro _ a w M K
    refine T_end ?_
    refine then_n ?_
    refine X_regI (by kernel_rfl) (fun ⟨_, _, h⟩ => h) ?_
    refine X_o K M ?_; clear K; intro a K
    refine X_inl (vs := [.pointer (some ⟨g_x5, 0, none⟩), I r3.1]) (cap := []) K (want_no rfl) rfl rfl rfl fok75 rfl rfl ?_; clear K
    refine X_enter Try.func75 rfl Try.ntmps75 rfl ?_
    intro a K
    have K : Kn a 19 [(0, .pointer (some ⟨g_x5, 0, none⟩)), (1, I r3.1)] := K
    refine wp_seq (X_reg ?_)
    refine X_o K M ?_; clear K; intro a K
    refine wpList_nil (then_n (wp_seq (wp_seq (X_reg ?_))))
    refine X_o K M ?_; clear K; intro a K
    refine wpList_nil (then_n (wp_block (wp_seq (X_reg ?_))))
    refine X_o K M ?_; clear K
    refine Y_o M ?_; intro a K
    refine wpList_nil (then_n ?_)
    refine X_cond K rfl (fun hb => ?_) (fun hb => ?_)
    · have h := ctrue hb h
      refine wp_seq (X_reg ?_)
      refine X_o K M ?_; clear K
      refine Y_o M ?_
      refine Y_r (fun _ K => rd_field rfl fld34_0 K rfl) M ?_
      refine Y_o M ?_; intro a K
      refine wpList_nil (then_n (wp_ret (inb_r (then_r ?_))))
      refine ret1 K rfl (res_tmp K rfl) ⟨_, rfl, ?_⟩; clear K; intro a K
      refine X_o K M ?_; clear K
      refine Y_r (fun _ K => rd_ldC rfl sc3 K rfl (inM 3 rfl) rfl) M ?_
      iterate 2 (refine Y_o M ?_)
      intro a K
      refine X_b K (ac_storeC rfl sc3 K rfl rfl rfl 3 M rfl rfl) ?_
      clear K M; rintro _ a w M K
      refine wpList_nil (inb_n ?_)
      cases h
      refine ⟨M.others, fun k hk _ => ?_, hbV.trans M.low, fun i e hi => ?_⟩
      · simp only [List.mem_cons, List.not_mem_nil, or_false] at hk
        rcases hk with rfl | rfl | rfl
        · exact (show _ = _ from M.blkAt (i := 2) rfl).trans (show _ = _ from MV.blkAt (i := 2) rfl).symm
        · exact (show _ = _ from M.blkAt (i := 1) rfl).trans (show _ = _ from MV.blkAt (i := 1) rfl).symm
        exact (show _ = _ from M.blkAt (i := 0) rfl).trans (show _ = _ from MV.blkAt (i := 0) rfl).symm
      have hS := D_mosaic_pixel_fold N d_W d_P o pre ⟨(u, v), hq⟩ hs hr
      simp only [hS] at hi
      exact (M.pick [0,1,2,3,4,5,6,7] (by decide)).has i e hi
    have h := cfalse hb h
    refine wp_seq (X_reg ?_)
    refine X_o K M ?_; clear K
    refine Y_o M ?_; intro a K
    refine wpList_nil (then_n ?_)
    refine X_cond K rfl (fun hb => ?_) (fun hb => ?_)
    · have h := ctrue hb h
      refine wp_seq (X_reg ?_)
      refine X_o K M ?_; clear K
      refine Y_o M ?_
      refine Y_r (fun _ K => rd_field rfl fld34_1 K rfl) M ?_
      refine Y_o M ?_; intro a K
      refine wpList_nil (then_n (wp_ret (inb_r (then_r ?_))))
      refine ret1 K rfl (res_tmp K rfl) ⟨_, rfl, ?_⟩; clear K; intro a K
      refine X_o K M ?_; clear K
      refine Y_r (fun _ K => rd_ldC rfl sc3 K rfl (inM 3 rfl) rfl) M ?_
      iterate 2 (refine Y_o M ?_)
      intro a K
      refine X_b K (ac_storeC rfl sc3 K rfl rfl rfl 3 M rfl rfl) ?_
      clear K M; rintro _ a w M K
      refine wpList_nil (inb_n ?_)
      cases h
      refine ⟨M.others, fun k hk _ => ?_, hbV.trans M.low, fun i e hi => ?_⟩
      · simp only [List.mem_cons, List.not_mem_nil, or_false] at hk
        rcases hk with rfl | rfl | rfl
        · exact (show _ = _ from M.blkAt (i := 2) rfl).trans (show _ = _ from MV.blkAt (i := 2) rfl).symm
        · exact (show _ = _ from M.blkAt (i := 1) rfl).trans (show _ = _ from MV.blkAt (i := 1) rfl).symm
        exact (show _ = _ from M.blkAt (i := 0) rfl).trans (show _ = _ from MV.blkAt (i := 0) rfl).symm
      have hS := D_mosaic_pixel_fold N d_W d_P o pre ⟨(u, v), hq⟩ hs hr
      simp only [hS] at hi
      exact (M.pick [0,1,2,3,4,5,6,7] (by decide)).has i e hi
    have h := cfalse hb h
    refine wp_skip (inb_n (then_n (wp_seq (X_reg ?_))))
    refine X_o K M ?_; clear K
    refine Y_o M ?_
    refine Y_r (fun _ K => rd_field rfl fld34_2 K rfl) M ?_
    refine Y_o M ?_; intro a K
    refine wpList_nil (then_n (wp_ret ?_))
    refine ret1 K rfl (res_tmp K rfl) ⟨_, rfl, ?_⟩; clear K; intro a K
    refine X_o K M ?_; clear K
    refine Y_r (fun _ K => rd_ldC rfl sc3 K rfl (inM 3 rfl) rfl) M ?_
    iterate 2 (refine Y_o M ?_)
    intro a K
    refine X_b K (ac_storeC rfl sc3 K rfl rfl rfl 3 M rfl rfl) ?_
    clear K M; rintro _ a w M K
    refine wpList_nil (inb_n ?_)
    cases h
    refine ⟨M.others, fun k hk _ => ?_, hbV.trans M.low, fun i e hi => ?_⟩
    · simp only [List.mem_cons, List.not_mem_nil, or_false] at hk
      rcases hk with rfl | rfl | rfl
      · exact (show _ = _ from M.blkAt (i := 2) rfl).trans (show _ = _ from MV.blkAt (i := 2) rfl).symm
      · exact (show _ = _ from M.blkAt (i := 1) rfl).trans (show _ = _ from MV.blkAt (i := 1) rfl).symm
      exact (show _ = _ from M.blkAt (i := 0) rfl).trans (show _ = _ from MV.blkAt (i := 0) rfl).symm
    have hS := D_mosaic_pixel_fold N d_W d_P o pre ⟨(u, v), hq⟩ hs hr
    simp only [hS] at hi
    exact (M.pick [0,1,2,3,4,5,6,7] (by decide)).has i e hi
  rintro D xs V hBD hxs ⟨hbV, hasV⟩ hD
  replace hBD := Nat.le_trans M.sz hBD
  rw [hxs] at hasV
  obtain ⟨s, hs⟩ : ∃ s, List.foldl (D_mosaic_pixel_s N d_W d_P o) (0, 0, 0, 0, 0, 0) (aroundL d_W d_H p2 p3) = s := ⟨_, rfl⟩
  rw [hs] at h
  simp only [hs] at hasV
  obtain ⟨x_R, x_G, x_B, x_R2, x_G2, x_B2⟩ := s
  replace M : Mem w0.heap.size V V [.blk g_y 3 [I p3], .blk g_x6 3 [I p2], .blk g_p 45 [I d_W, I d_H, .slice A_d_P d_P.length c_d_P], .blk g_x5 34 [I x_R, I x_G, I x_B], .blk g_x4 34 [I x_R2, I x_G2, I x_B2], .blk g_x3 34 [I 0, I 0, I 0], .blk g_x2 3 [I o], .blk g_x 45 [I d_W, I d_H, .slice A_d_P d_P.length c_d_P]] := M.round rfl hbV hasV
  replace K := K.mark { target := .collected D, args := #[] }
  clear hs hasV hxs
  unfold D_mosaic_pixel_r at h
  try dsimp only at h
  refine inb_n (then_n (wp_seq (wp_seq (X_reg ?_))))
  refine X_o K M ?_; clear K; intro a K
  refine wpList_nil (then_n (wp_block ?_))
  refine X_lp (id := 2) (Rel := fun (⟨x_R3, x_G3, x_B3, i⟩ : Int × Int × Int × Int) a w => Kd [{ target := .collected D, args := #[] }] a 92 [(2, I p2), (3, I p3), (4, .pointer (some ⟨g_x, 0, none⟩)), (5, .pointer (some ⟨g_x2, 0, none⟩)), (8, .pointer (some ⟨g_x3, 0, none⟩)), (9, .pointer (some ⟨g_x4, 0, none⟩)), (10, .pointer (some ⟨g_x5, 0, none⟩)), (54, I i)] ∧ Mem w0.heap.size V w [.blk g_x5 34 [I x_R, I x_G, I x_B], .blk g_x4 34 [I x_R3, I x_G3, I x_B3], .blk g_x3 34 [I 0, I 0, I 0], .blk g_x2 3 [I o], .blk g_x 45 [I d_W, I d_H, .slice A_d_P d_P.length c_d_P]]) h (fun _ _ => rfl) ⟨K.pick [2,3,4,5,8,9,10,54], M.pick [3,4,5,6,7] (by decide)⟩ ?_ ?_
  · clear K M h
    rintro ⟨x_R4, x_G4, x_B4, i2⟩ a w ⟨K, M⟩ h
    try dsimp only at h
    refine inb_e ?_
    refine then_n (wp_seq (X_reg ?_))
    refine X_r K (rd_ldC rfl sc3 K rfl (inM 3 rfl) rfl) M ?_; clear K
    iterate 2 (refine Y_o M ?_)
    intro a K
    obtain ⟨r4, h_r4, h⟩ := obind h
    refine X_a K (ac_call (vs := [I o, I p2, I p3]) (cap := []) rfl fok74 K rfl rfl (W_sensor_Colour N o p2 p3 _  r4 h_r4)) ?_
    have M0 := M; clear K M; rintro _ a w ⟨rfl, M⟩ K
    replace M := M0.call M; clear M0
    refine X_o K M ?_; clear K
    iterate 4 (refine Y_o M ?_)
    intro a K
    refine wpList_nil (then_n (wp_seq ?_))
    refine wp_region_tl (fun w => Mem _ _ w _) [0,1,0,0,0,0,0,0,0,0,0,0,0,2] (by kernel_rfl) (by kernel_rfl) M.drew ?_
    replace M := M.drew
    refine T_o K ?_; clear K; intro a K
    refine T_inl (vs := [.pointer (some ⟨g_x4, 0, none⟩), I r4.1]) (cap := []) K (want_no rfl) rfl rfl rfl fok75 rfl rfl ?_; clear K
    refine X_enter Try.func75 rfl Try.ntmps75 rfl ?_
    intro a K
    have K : Kn a 19 [(0, .pointer (some ⟨g_x4, 0, none⟩)), (1, I r4.1)] := K
    refine wp_seq (X_reg ?_)
    refine X_o K M ?_; clear K; intro a K
    refine wpList_nil (then_n (wp_seq (wp_seq (X_reg ?_))))
    refine X_o K M ?_; clear K; intro a K
    refine wpList_nil (then_n (wp_block (wp_seq (X_reg ?_))))
    refine X_o K M ?_; clear K
    refine Y_o M ?_; intro a K
    refine wpList_nil (then_n ?_)
    refine X_cond K rfl (fun hb => ?_) (fun hb => ?_)
    · have h := ctrue hb h
      refine wp_seq (X_reg ?_)
      refine X_o K M ?_; clear K
      refine Y_o M ?_
      refine Y_r (fun _ K => rd_field rfl fld34_0 K rfl) M ?_
      refine Y_o M ?_; intro a K
      refine wpList_nil (then_n (wp_ret (inb_r (then_r ?_))))
      refine ret1 K rfl (res_tmp K rfl) ⟨_, rfl, ?_⟩; clear K; intro a K
      refine ⟨M.pick [0,1,2,3,4] (by decide), ?_⟩
      refine T_r K (rd_field rfl fld45_2 K rfl) ?_; clear K
      refine U_r (fun _ K => rd_ldC rfl sc43 K rfl (inM 4 rfl) rfl) ?_
      refine U_o ?_
      refine U_r (fun _ K => rd_field rfl fld45_0 K rfl) ?_
      refine U_r (fun _ K => rd_ldC rfl sc3 K rfl (inM 4 rfl) rfl) ?_
      iterate 3 (refine U_o ?_)
      obtain ⟨e7, h_e7, h⟩ := obind h
      refine U_r (fun _ K => rd_ix rfl sl43 K rfl rfl (inA2 hbV R_d_P) h_e7) ?_
      refine U_r (fun _ K => rd_elC rfl sc3 K rfl rfl (inA2 hbV R_d_P) h_e7 rfl) ?_
      refine U_o ?_; intro a K
      refine T_b K (ac_storeC rfl sc3 K rfl rfl rfl 1 M rfl rfl) ?_
      clear K M; rintro _ a w M K
      refine T_end ?_
      refine then_n (wp_seq (X_reg ?_))
      refine X_r K (rd_ldA rfl ty34 K rfl (inM 1 rfl) rfl rfl) M ?_; clear K; intro a K
      refine X_b K (ac_storeA rfl ty34 K rfl (ds := [I e7, I x_G4, I x_B4]) rfl rfl 2 M rfl rfl rfl) ?_
      clear K M; rintro _ a w M K
      refine wpList_nil (then_n (wp_ret ?_))
      cases h
      have hDw := M.oth D _ hD rfl
      exact retM1 K hDw rfl (res_cellA K rfl ty34 (M.putD hBD hDw (i := 2) rfl) rfl) ⟨_, rfl, rfl, Mem.fin (below_putD (hbV.trans M.low) hBD _)⟩
    have h := cfalse hb h
    refine wp_seq (X_reg ?_)
    refine X_o K M ?_; clear K
    refine Y_o M ?_; intro a K
    refine wpList_nil (then_n ?_)
    refine X_cond K rfl (fun hb => ?_) (fun hb => ?_)
    · have h := ctrue hb h
      refine wp_seq (X_reg ?_)
      refine X_o K M ?_; clear K
      refine Y_o M ?_
      refine Y_r (fun _ K => rd_field rfl fld34_1 K rfl) M ?_
      refine Y_o M ?_; intro a K
      refine wpList_nil (then_n (wp_ret (inb_r (then_r ?_))))
      refine ret1 K rfl (res_tmp K rfl) ⟨_, rfl, ?_⟩; clear K; intro a K
      refine ⟨M.pick [0,1,2,3,4] (by decide), ?_⟩
      refine T_r K (rd_field rfl fld45_2 K rfl) ?_; clear K
      refine U_r (fun _ K => rd_ldC rfl sc43 K rfl (inM 4 rfl) rfl) ?_
      refine U_o ?_
      refine U_r (fun _ K => rd_field rfl fld45_0 K rfl) ?_
      refine U_r (fun _ K => rd_ldC rfl sc3 K rfl (inM 4 rfl) rfl) ?_
      iterate 3 (refine U_o ?_)
      obtain ⟨e8, h_e8, h⟩ := obind h
      refine U_r (fun _ K => rd_ix rfl sl43 K rfl rfl (inA2 hbV R_d_P) h_e8) ?_
      refine U_r (fun _ K => rd_elC rfl sc3 K rfl rfl (inA2 hbV R_d_P) h_e8 rfl) ?_
      refine U_o ?_; intro a K
      refine T_b K (ac_storeC rfl sc3 K rfl rfl rfl 1 M rfl rfl) ?_
      clear K M; rintro _ a w M K
      refine T_end ?_
      refine then_n (wp_seq (X_reg ?_))
      refine X_r K (rd_ldA rfl ty34 K rfl (inM 1 rfl) rfl rfl) M ?_; clear K; intro a K
      refine X_b K (ac_storeA rfl ty34 K rfl (ds := [I x_R4, I e8, I x_B4]) rfl rfl 2 M rfl rfl rfl) ?_
      clear K M; rintro _ a w M K
      refine wpList_nil (then_n (wp_ret ?_))
      cases h
      have hDw := M.oth D _ hD rfl
      exact retM1 K hDw rfl (res_cellA K rfl ty34 (M.putD hBD hDw (i := 2) rfl) rfl) ⟨_, rfl, rfl, Mem.fin (below_putD (hbV.trans M.low) hBD _)⟩
    have h := cfalse hb h
    refine wp_skip (inb_n (then_n (wp_seq (X_reg ?_))))
    refine X_o K M ?_; clear K
    refine Y_o M ?_
    refine Y_r (fun _ K => rd_field rfl fld34_2 K rfl) M ?_
    refine Y_o M ?_; intro a K
    refine wpList_nil (then_n (wp_ret ?_))
    refine ret1 K rfl (res_tmp K rfl) ⟨_, rfl, ?_⟩; clear K; intro a K
    refine ⟨M.pick [0,1,2,3,4] (by decide), ?_⟩
    refine T_r K (rd_field rfl fld45_2 K rfl) ?_; clear K
    refine U_r (fun _ K => rd_ldC rfl sc43 K rfl (inM 4 rfl) rfl) ?_
    refine U_o ?_
    refine U_r (fun _ K => rd_field rfl fld45_0 K rfl) ?_
    refine U_r (fun _ K => rd_ldC rfl sc3 K rfl (inM 4 rfl) rfl) ?_
    iterate 3 (refine U_o ?_)
    obtain ⟨e9, h_e9, h⟩ := obind h
    refine U_r (fun _ K => rd_ix rfl sl43 K rfl rfl (inA2 hbV R_d_P) h_e9) ?_
    refine U_r (fun _ K => rd_elC rfl sc3 K rfl rfl (inA2 hbV R_d_P) h_e9 rfl) ?_
    refine U_o ?_; intro a K
    refine T_b K (ac_storeC rfl sc3 K rfl rfl rfl 1 M rfl rfl) ?_
    clear K M; rintro _ a w M K
    refine T_end ?_
    refine then_n (wp_seq (X_reg ?_))
    refine X_r K (rd_ldA rfl ty34 K rfl (inM 1 rfl) rfl rfl) M ?_; clear K; intro a K
    refine X_b K (ac_storeA rfl ty34 K rfl (ds := [I x_R4, I x_G4, I e9]) rfl rfl 2 M rfl rfl rfl) ?_
    clear K M; rintro _ a w M K
    refine wpList_nil (then_n (wp_ret ?_))
    cases h
    have hDw := M.oth D _ hD rfl
    exact retM1 K hDw rfl (res_cellA K rfl ty34 (M.putD hBD hDw (i := 2) rfl) rfl) ⟨_, rfl, rfl, Mem.fin (below_putD (hbV.trans M.low) hBD _)⟩
  clear K M h
  rintro kk fuel ⟨x_R3, x_G3, x_B3, i⟩ a w hk1 ⟨K, M⟩ h
  unfold D_mosaic_pixel_l1 at h
  refine wp_seq (X_reg ?_)
  refine X_o K M ?_; clear K; intro a K
  refine wpList_nil (then_n (wp_seq ?_))
  refine X_cond K rfl (fun hb => ?_) (fun hb => ?_)
  · have h := ctrue hb h
    refine wp_skip (then_n (wp_seq (wp_block (wp_seq (X_reg ?_)))))
    refine X_o K M ?_; clear K
    refine Y_o M ?_; intro a K
    refine wpList_nil (then_n (wp_seq (X_reg ?_)))
    refine X_o K M ?_; clear K; intro a K
    refine X_inl (vs := [.pointer (some ⟨g_x5, 0, none⟩), I i]) (cap := []) K (want_no rfl) rfl rfl rfl fok75 rfl rfl ?_; clear K
    refine X_enter Try.func75 rfl Try.ntmps75 rfl ?_
    intro a K
    have K : Kn a 19 [(0, .pointer (some ⟨g_x5, 0, none⟩)), (1, I i)] := K
    refine wp_seq (X_reg ?_)
    refine X_o K M ?_; clear K; intro a K
    refine wpList_nil (then_n (wp_seq (wp_seq (X_reg ?_))))
    refine X_o K M ?_; clear K; intro a K
    refine wpList_nil (then_n (wp_block (wp_seq (X_reg ?_))))
    refine X_o K M ?_; clear K
    refine Y_o M ?_; intro a K
    refine wpList_nil (then_n ?_)
    refine X_cond K rfl (fun hb => ?_) (fun hb => ?_)
    · have h := ctrue hb h
      refine wp_seq (X_reg ?_)
      refine X_o K M ?_; clear K
      refine Y_o M ?_
      refine Y_r (fun _ K => rd_field rfl fld34_0 K rfl) M ?_
      refine Y_o M ?_; intro a K
      refine wpList_nil (then_n (wp_ret (inb_r (then_r ?_))))
      refine ret1 K rfl (res_tmp K rfl) ⟨_, rfl, ?_⟩; clear K; intro a K
      refine X_o K M ?_; clear K
      refine Y_r (fun _ K => rd_ldC rfl sc3 K rfl (inM 0 rfl) rfl) M ?_
      refine Y_o M ?_; intro a K
      refine wpList_nil (then_n (wp_seq (X_reg ?_)))
      refine X_o K M ?_; clear K
      refine Y_o M ?_; intro a K
      refine wpList_nil (then_n ?_)
      refine X_cond K rfl (fun hb => ?_) (fun hb => ?_)
      · have h := ctrue hb h
        refine X_reg ?_
        refine X_o K M ?_; clear K; intro a K
        refine X_inl (vs := [.pointer (some ⟨g_x4, 0, none⟩), I i]) (cap := []) K (want_no rfl) rfl rfl rfl fok75 rfl rfl ?_; clear K
        refine X_enter Try.func75 rfl Try.ntmps75 rfl ?_
        intro a K
        have K : Kn a 19 [(0, .pointer (some ⟨g_x4, 0, none⟩)), (1, I i)] := K
        refine wp_seq (X_reg ?_)
        refine X_o K M ?_; clear K; intro a K
        refine wpList_nil (then_n (wp_seq (wp_seq (X_reg ?_))))
        refine X_o K M ?_; clear K; intro a K
        refine wpList_nil (then_n (wp_block (wp_seq (X_reg ?_))))
        refine X_o K M ?_; clear K
        refine Y_o M ?_; intro a K
        refine wpList_nil (then_n ?_)
        refine X_cond K rfl (fun hb => ?_) (fun hb => ?_)
        · have h := ctrue hb h
          refine wp_seq (X_reg ?_)
          refine X_o K M ?_; clear K
          refine Y_o M ?_
          refine Y_r (fun _ K => rd_field rfl fld34_0 K rfl) M ?_
          refine Y_o M ?_; intro a K
          refine wpList_nil (then_n (wp_ret (inb_r (then_r ?_))))
          refine ret1 K rfl (res_tmp K rfl) ⟨_, rfl, ?_⟩; clear K; intro a K
          refine X_o K M ?_; clear K
          refine Y_r (fun _ K => rd_ldC rfl sc3 K rfl (inM 1 rfl) rfl) M ?_
          refine Y_o M ?_; intro a K
          obtain ⟨_, h0, h⟩ := obind h
          have h0 := nz_spec h0
          refine X_r K (rd_quo rfl K rfl rfl h0) M ?_; clear K
          refine Y_o M ?_; intro a K
          refine X_b K (ac_storeC rfl sc3 K rfl rfl rfl 1 M rfl rfl) ?_
          clear K M; rintro _ a w M K
          refine wpList_nil (inb_n (then_n (X_reg ?_)))
          refine X_o K M ?_; clear K
          refine Y_o M ?_; intro a K
          refine wpList_nil ?_
          exact then_n ⟨(IntKind.i64.wrap (Int.tdiv x_R3 x_R), x_G3, x_B3, IntKind.i64.wrap (i + 1)), ⟨K.pick [2,3,4,5,8,9,10,54], M.pick [0,1,2,3,4] (by decide)⟩, h⟩
        have h := cfalse hb h
        refine wp_seq (X_reg ?_)
        refine X_o K M ?_; clear K
        refine Y_o M ?_; intro a K
        refine wpList_nil (then_n ?_)
        refine X_cond K rfl (fun hb => ?_) (fun hb => ?_)
        · have h := ctrue hb h
          refine wp_seq (X_reg ?_)
          refine X_o K M ?_; clear K
          refine Y_o M ?_
          refine Y_r (fun _ K => rd_field rfl fld34_1 K rfl) M ?_
          refine Y_o M ?_; intro a K
          refine wpList_nil (then_n (wp_ret (inb_r (then_r ?_))))
          refine ret1 K rfl (res_tmp K rfl) ⟨_, rfl, ?_⟩; clear K; intro a K
          refine X_o K M ?_; clear K
          refine Y_r (fun _ K => rd_ldC rfl sc3 K rfl (inM 1 rfl) rfl) M ?_
          refine Y_o M ?_; intro a K
          obtain ⟨_, h0, h⟩ := obind h
          have h0 := nz_spec h0
          refine X_r K (rd_quo rfl K rfl rfl h0) M ?_; clear K
          refine Y_o M ?_; intro a K
          refine X_b K (ac_storeC rfl sc3 K rfl rfl rfl 1 M rfl rfl) ?_
          clear K M; rintro _ a w M K
          refine wpList_nil (inb_n (then_n (X_reg ?_)))
          refine X_o K M ?_; clear K
          refine Y_o M ?_; intro a K
          refine wpList_nil ?_
          exact then_n ⟨(x_R3, IntKind.i64.wrap (Int.tdiv x_G3 x_R), x_B3, IntKind.i64.wrap (i + 1)), ⟨K.pick [2,3,4,5,8,9,10,54], M.pick [0,1,2,3,4] (by decide)⟩, h⟩
        have h := cfalse hb h
        refine wp_skip (inb_n (then_n (wp_seq (X_reg ?_))))
        refine X_o K M ?_; clear K
        refine Y_o M ?_
        refine Y_r (fun _ K => rd_field rfl fld34_2 K rfl) M ?_
        refine Y_o M ?_; intro a K
        refine wpList_nil (then_n (wp_ret ?_))
        refine ret1 K rfl (res_tmp K rfl) ⟨_, rfl, ?_⟩; clear K; intro a K
        refine X_o K M ?_; clear K
        refine Y_r (fun _ K => rd_ldC rfl sc3 K rfl (inM 1 rfl) rfl) M ?_
        refine Y_o M ?_; intro a K
        obtain ⟨_, h0, h⟩ := obind h
        have h0 := nz_spec h0
        refine X_r K (rd_quo rfl K rfl rfl h0) M ?_; clear K
        refine Y_o M ?_; intro a K
        refine X_b K (ac_storeC rfl sc3 K rfl rfl rfl 1 M rfl rfl) ?_
        clear K M; rintro _ a w M K
        refine wpList_nil (inb_n (then_n (X_reg ?_)))
        refine X_o K M ?_; clear K
        refine Y_o M ?_; intro a K
        refine wpList_nil ?_
        exact then_n ⟨(x_R3, x_G3, IntKind.i64.wrap (Int.tdiv x_B3 x_R), IntKind.i64.wrap (i + 1)), ⟨K.pick [2,3,4,5,8,9,10,54], M.pick [0,1,2,3,4] (by decide)⟩, h⟩
      have h := cfalse hb h
      refine wp_skip (inb_n (then_n (X_reg ?_)))
      refine X_o K M ?_; clear K
      refine Y_o M ?_; intro a K
      refine wpList_nil ?_
      exact then_n ⟨(x_R3, x_G3, x_B3, IntKind.i64.wrap (i + 1)), ⟨K.pick [2,3,4,5,8,9,10,54], M.pick [0,1,2,3,4] (by decide)⟩, h⟩
    have h := cfalse hb h
    refine wp_seq (X_reg ?_)
    refine X_o K M ?_; clear K
    refine Y_o M ?_; intro a K
    refine wpList_nil (then_n ?_)
    refine X_cond K rfl (fun hb => ?_) (fun hb => ?_)
    · have h := ctrue hb h
      refine wp_seq (X_reg ?_)
      refine X_o K M ?_; clear K
      refine Y_o M ?_
      refine Y_r (fun _ K => rd_field rfl fld34_1 K rfl) M ?_
      refine Y_o M ?_; intro a K
      refine wpList_nil (then_n (wp_ret (inb_r (then_r ?_))))
      refine ret1 K rfl (res_tmp K rfl) ⟨_, rfl, ?_⟩; clear K; intro a K
      refine X_o K M ?_; clear K
      refine Y_r (fun _ K => rd_ldC rfl sc3 K rfl (inM 0 rfl) rfl) M ?_
      refine Y_o M ?_; intro a K
      refine wpList_nil (then_n (wp_seq (X_reg ?_)))
      refine X_o K M ?_; clear K
      refine Y_o M ?_; intro a K
      refine wpList_nil (then_n ?_)
      refine X_cond K rfl (fun hb => ?_) (fun hb => ?_)
      · have h := ctrue hb h
        refine X_reg ?_
        refine X_o K M ?_; clear K; intro a K
        refine X_inl (vs := [.pointer (some ⟨g_x4, 0, none⟩), I i]) (cap := []) K (want_no rfl) rfl rfl rfl fok75 rfl rfl ?_; clear K
        refine X_enter Try.func75 rfl Try.ntmps75 rfl ?_
        intro a K
        have K : Kn a 19 [(0, .pointer (some ⟨g_x4, 0, none⟩)), (1, I i)] := K
        refine wp_seq (X_reg ?_)
        refine X_o K M ?_; clear K; intro a K
        refine wpList_nil (then_n (wp_seq (wp_seq (X_reg ?_))))
        refine X_o K M ?_; clear K; intro a K
        refine wpList_nil (then_n (wp_block (wp_seq (X_reg ?_))))
        refine X_o K M ?_; clear K
        refine Y_o M ?_; intro a K
        refine wpList_nil (then_n ?_)
        refine X_cond K rfl (fun hb => ?_) (fun hb => ?_)
        · have h := ctrue hb h
          refine wp_seq (X_reg ?_)
          refine X_o K M ?_; clear K
          refine Y_o M ?_
          refine Y_r (fun _ K => rd_field rfl fld34_0 K rfl) M ?_
          refine Y_o M ?_; intro a K
          refine wpList_nil (then_n (wp_ret (inb_r (then_r ?_))))
          refine ret1 K rfl (res_tmp K rfl) ⟨_, rfl, ?_⟩; clear K; intro a K
          refine X_o K M ?_; clear K
          refine Y_r (fun _ K => rd_ldC rfl sc3 K rfl (inM 1 rfl) rfl) M ?_
          refine Y_o M ?_; intro a K
          obtain ⟨_, h0, h⟩ := obind h
          have h0 := nz_spec h0
          refine X_r K (rd_quo rfl K rfl rfl h0) M ?_; clear K
          refine Y_o M ?_; intro a K
          refine X_b K (ac_storeC rfl sc3 K rfl rfl rfl 1 M rfl rfl) ?_
          clear K M; rintro _ a w M K
          refine wpList_nil (inb_n (then_n (X_reg ?_)))
          refine X_o K M ?_; clear K
          refine Y_o M ?_; intro a K
          refine wpList_nil ?_
          exact then_n ⟨(IntKind.i64.wrap (Int.tdiv x_R3 x_G), x_G3, x_B3, IntKind.i64.wrap (i + 1)), ⟨K.pick [2,3,4,5,8,9,10,54], M.pick [0,1,2,3,4] (by decide)⟩, h⟩
        have h := cfalse hb h
        refine wp_seq (X_reg ?_)
        refine X_o K M ?_; clear K
        refine Y_o M ?_; intro a K
        refine wpList_nil (then_n ?_)
        refine X_cond K rfl (fun hb => ?_) (fun hb => ?_)
        · have h := ctrue hb h
          refine wp_seq (X_reg ?_)
          refine X_o K M ?_; clear K
          refine Y_o M ?_
          refine Y_r (fun _ K => rd_field rfl fld34_1 K rfl) M ?_
          refine Y_o M ?_; intro a K
          refine wpList_nil (then_n (wp_ret (inb_r (then_r ?_))))
          refine ret1 K rfl (res_tmp K rfl) ⟨_, rfl, ?_⟩; clear K; intro a K
          refine X_o K M ?_; clear K
          refine Y_r (fun _ K => rd_ldC rfl sc3 K rfl (inM 1 rfl) rfl) M ?_
          refine Y_o M ?_; intro a K
          obtain ⟨_, h0, h⟩ := obind h
          have h0 := nz_spec h0
          refine X_r K (rd_quo rfl K rfl rfl h0) M ?_; clear K
          refine Y_o M ?_; intro a K
          refine X_b K (ac_storeC rfl sc3 K rfl rfl rfl 1 M rfl rfl) ?_
          clear K M; rintro _ a w M K
          refine wpList_nil (inb_n (then_n (X_reg ?_)))
          refine X_o K M ?_; clear K
          refine Y_o M ?_; intro a K
          refine wpList_nil ?_
          exact then_n ⟨(x_R3, IntKind.i64.wrap (Int.tdiv x_G3 x_G), x_B3, IntKind.i64.wrap (i + 1)), ⟨K.pick [2,3,4,5,8,9,10,54], M.pick [0,1,2,3,4] (by decide)⟩, h⟩
        have h := cfalse hb h
        refine wp_skip (inb_n (then_n (wp_seq (X_reg ?_))))
        refine X_o K M ?_; clear K
        refine Y_o M ?_
        refine Y_r (fun _ K => rd_field rfl fld34_2 K rfl) M ?_
        refine Y_o M ?_; intro a K
        refine wpList_nil (then_n (wp_ret ?_))
        refine ret1 K rfl (res_tmp K rfl) ⟨_, rfl, ?_⟩; clear K; intro a K
        refine X_o K M ?_; clear K
        refine Y_r (fun _ K => rd_ldC rfl sc3 K rfl (inM 1 rfl) rfl) M ?_
        refine Y_o M ?_; intro a K
        obtain ⟨_, h0, h⟩ := obind h
        have h0 := nz_spec h0
        refine X_r K (rd_quo rfl K rfl rfl h0) M ?_; clear K
        refine Y_o M ?_; intro a K
        refine X_b K (ac_storeC rfl sc3 K rfl rfl rfl 1 M rfl rfl) ?_
        clear K M; rintro _ a w M K
        refine wpList_nil (inb_n (then_n (X_reg ?_)))
        refine X_o K M ?_; clear K
        refine Y_o M ?_; intro a K
        refine wpList_nil ?_
        exact then_n ⟨(x_R3, x_G3, IntKind.i64.wrap (Int.tdiv x_B3 x_G), IntKind.i64.wrap (i + 1)), ⟨K.pick [2,3,4,5,8,9,10,54], M.pick [0,1,2,3,4] (by decide)⟩, h⟩
      have h := cfalse hb h
      refine wp_skip (inb_n (then_n (X_reg ?_)))
      refine X_o K M ?_; clear K
      refine Y_o M ?_; intro a K
      refine wpList_nil ?_
      exact then_n ⟨(x_R3, x_G3, x_B3, IntKind.i64.wrap (i + 1)), ⟨K.pick [2,3,4,5,8,9,10,54], M.pick [0,1,2,3,4] (by decide)⟩, h⟩
    have h := cfalse hb h
    refine wp_skip (inb_n (then_n (wp_seq (X_reg ?_))))
    refine X_o K M ?_; clear K
    refine Y_o M ?_
    refine Y_r (fun _ K => rd_field rfl fld34_2 K rfl) M ?_
    refine Y_o M ?_; intro a K
    refine wpList_nil (then_n (wp_ret ?_))
    refine ret1 K rfl (res_tmp K rfl) ⟨_, rfl, ?_⟩; clear K; intro a K
    refine X_o K M ?_; clear K
    refine Y_r (fun _ K => rd_ldC rfl sc3 K rfl (inM 0 rfl) rfl) M ?_
    refine Y_o M ?_; intro a K
    refine wpList_nil (then_n (wp_seq (X_reg ?_)))
    refine X_o K M ?_; clear K
    refine Y_o M ?_; intro a K
    refine wpList_nil (then_n ?_)
    refine X_cond K rfl (fun hb => ?_) (fun hb => ?_)
    · have h := ctrue hb h
      refine X_reg ?_
      refine X_o K M ?_; clear K; intro a K
      refine X_inl (vs := [.pointer (some ⟨g_x4, 0, none⟩), I i]) (cap := []) K (want_no rfl) rfl rfl rfl fok75 rfl rfl ?_; clear K
      refine X_enter Try.func75 rfl Try.ntmps75 rfl ?_
      intro a K
      have K : Kn a 19 [(0, .pointer (some ⟨g_x4, 0, none⟩)), (1, I i)] := K
      refine wp_seq (X_reg ?_)
      refine X_o K M ?_; clear K; intro a K
      refine wpList_nil (then_n (wp_seq (wp_seq (X_reg ?_))))
      refine X_o K M ?_; clear K; intro a K
      refine wpList_nil (then_n (wp_block (wp_seq (X_reg ?_))))
      refine X_o K M ?_; clear K
      refine Y_o M ?_; intro a K
      refine wpList_nil (then_n ?_)
      refine X_cond K rfl (fun hb => ?_) (fun hb => ?_)
      · have h := ctrue hb h
        refine wp_seq (X_reg ?_)
        refine X_o K M ?_; clear K
        refine Y_o M ?_
        refine Y_r (fun _ K => rd_field rfl fld34_0 K rfl) M ?_
        refine Y_o M ?_; intro a K
        refine wpList_nil (then_n (wp_ret (inb_r (then_r ?_))))
        refine ret1 K rfl (res_tmp K rfl) ⟨_, rfl, ?_⟩; clear K; intro a K
        refine X_o K M ?_; clear K
        refine Y_r (fun _ K => rd_ldC rfl sc3 K rfl (inM 1 rfl) rfl) M ?_
        refine Y_o M ?_; intro a K
        obtain ⟨_, h0, h⟩ := obind h
        have h0 := nz_spec h0
        refine X_r K (rd_quo rfl K rfl rfl h0) M ?_; clear K
        refine Y_o M ?_; intro a K
        refine X_b K (ac_storeC rfl sc3 K rfl rfl rfl 1 M rfl rfl) ?_
        clear K M; rintro _ a w M K
        refine wpList_nil (inb_n (then_n (X_reg ?_)))
        refine X_o K M ?_; clear K
        refine Y_o M ?_; intro a K
        refine wpList_nil ?_
        exact then_n ⟨(IntKind.i64.wrap (Int.tdiv x_R3 x_B), x_G3, x_B3, IntKind.i64.wrap (i + 1)), ⟨K.pick [2,3,4,5,8,9,10,54], M.pick [0,1,2,3,4] (by decide)⟩, h⟩
      have h := cfalse hb h
      refine wp_seq (X_reg ?_)
      refine X_o K M ?_; clear K
      refine Y_o M ?_; intro a K
      refine wpList_nil (then_n ?_)
      refine X_cond K rfl (fun hb => ?_) (fun hb => ?_)
      · have h := ctrue hb h
        refine wp_seq (X_reg ?_)
        refine X_o K M ?_; clear K
        refine Y_o M ?_
        refine Y_r (fun _ K => rd_field rfl fld34_1 K rfl) M ?_
        refine Y_o M ?_; intro a K
        refine wpList_nil (then_n (wp_ret (inb_r (then_r ?_))))
        refine ret1 K rfl (res_tmp K rfl) ⟨_, rfl, ?_⟩; clear K; intro a K
        refine X_o K M ?_; clear K
        refine Y_r (fun _ K => rd_ldC rfl sc3 K rfl (inM 1 rfl) rfl) M ?_
        refine Y_o M ?_; intro a K
        obtain ⟨_, h0, h⟩ := obind h
        have h0 := nz_spec h0
        refine X_r K (rd_quo rfl K rfl rfl h0) M ?_; clear K
        refine Y_o M ?_; intro a K
        refine X_b K (ac_storeC rfl sc3 K rfl rfl rfl 1 M rfl rfl) ?_
        clear K M; rintro _ a w M K
        refine wpList_nil (inb_n (then_n (X_reg ?_)))
        refine X_o K M ?_; clear K
        refine Y_o M ?_; intro a K
        refine wpList_nil ?_
        exact then_n ⟨(x_R3, IntKind.i64.wrap (Int.tdiv x_G3 x_B), x_B3, IntKind.i64.wrap (i + 1)), ⟨K.pick [2,3,4,5,8,9,10,54], M.pick [0,1,2,3,4] (by decide)⟩, h⟩
      have h := cfalse hb h
      refine wp_skip (inb_n (then_n (wp_seq (X_reg ?_))))
      refine X_o K M ?_; clear K
      refine Y_o M ?_
      refine Y_r (fun _ K => rd_field rfl fld34_2 K rfl) M ?_
      refine Y_o M ?_; intro a K
      refine wpList_nil (then_n (wp_ret ?_))
      refine ret1 K rfl (res_tmp K rfl) ⟨_, rfl, ?_⟩; clear K; intro a K
      refine X_o K M ?_; clear K
      refine Y_r (fun _ K => rd_ldC rfl sc3 K rfl (inM 1 rfl) rfl) M ?_
      refine Y_o M ?_; intro a K
      obtain ⟨_, h0, h⟩ := obind h
      have h0 := nz_spec h0
      refine X_r K (rd_quo rfl K rfl rfl h0) M ?_; clear K
      refine Y_o M ?_; intro a K
      refine X_b K (ac_storeC rfl sc3 K rfl rfl rfl 1 M rfl rfl) ?_
      clear K M; rintro _ a w M K
      refine wpList_nil (inb_n (then_n (X_reg ?_)))
      refine X_o K M ?_; clear K
      refine Y_o M ?_; intro a K
      refine wpList_nil ?_
      exact then_n ⟨(x_R3, x_G3, IntKind.i64.wrap (Int.tdiv x_B3 x_B), IntKind.i64.wrap (i + 1)), ⟨K.pick [2,3,4,5,8,9,10,54], M.pick [0,1,2,3,4] (by decide)⟩, h⟩
    have h := cfalse hb h
    refine wp_skip (inb_n (then_n (X_reg ?_)))
    refine X_o K M ?_; clear K
    refine Y_o M ?_; intro a K
    refine wpList_nil ?_
    exact then_n ⟨(x_R3, x_G3, x_B3, IntKind.i64.wrap (i + 1)), ⟨K.pick [2,3,4,5,8,9,10,54], M.pick [0,1,2,3,4] (by decide)⟩, h⟩
  have h := cfalse hb h
  refine wp_exit ?_
  refine then_e ?_
  exact then_e (hk1 (x_R3, x_G3, x_B3, i) _ _ ⟨K.pick [2,3,4,5,8,9,10,54], M.pick [0,1,2,3,4] (by decide)⟩ h)
set_option maxRecDepth 100000 in
set_option maxHeartbeats 4000000 in
theorem W_mosaic_Fill (N : Nat) (p_W : Int) (p_H : Int) (p_P : List Int) (A_p_P : Option Addr) (c_p_P : Nat) (phase : Int) (w0 : World) (R_p_P : SL w0 (cI .i64) A_p_P p_P) (C_p_P : p_P.length ≤ c_p_P) (r : Int × Int × List (Int × Int × Int) × Int) (h : D_mosaic_Fill N p_W p_H p_P phase = some r) :
    Calls Try.prog 104 #[.agg #[I p_W, I p_H, .slice A_p_P p_P.length c_p_P], I phase] w0 fun e w' => ∃ v, e = .returned v ∧ ∃ A2 c2, v = .tuple #[.agg #[I r.1, I r.2.1, .slice A2 r.2.2.1.length c2], I r.2.2.2] ∧ Mem w0.heap.size w0 w' [.row 34 3 A2 r.2.2.1.length c2 (cIII.all r.2.2.1)] := by
  refine X_enter Try.func104 rfl Try.ntmps104 rfl ?_
  intro a K
  have M := Mem.start w0
  have K : Kn a 55 [(0, .agg #[I p_W, I p_H, .slice A_p_P p_P.length c_p_P]), (1, I phase)] := K
  unfold D_mosaic_Fill at h
  refine wp_seq (X_reg ?_)
  refine X_a K (ac_box rfl K rfl (cs := [I p_W, I p_H, .slice A_p_P p_P.length c_p_P]) rfl M) ?_
  clear K M; rintro _ a w ⟨g_p, rfl, M⟩ K
  refine X_a K (ac_alloc rfl z24 M) ?_
  clear K M; rintro _ a w ⟨g_x, rfl, M⟩ K
  refine X_o K M ?_; clear K; intro a K
  refine wpList_nil (then_n (wp_seq (wp_seq (X_reg ?_))))
  refine X_r K (rd_ldA rfl ty45 K rfl (inM 1 rfl) rfl rfl) M ?_; clear K; intro a K
  obtain ⟨r2, h_r2, h⟩ := obind h
  refine X_a K (ac_call (vs := [.agg #[I p_W, I p_H, .slice A_p_P p_P.length c_p_P], .slice none (([] : List (Int × Int))).length 0]) (cap := []) rfl fok53 K rfl rfl (W_sensor_Repair N p_W p_H p_P A_p_P c_p_P (([] : List (Int × Int))) none 0 _ ((inA R_p_P) _ M) C_p_P ((fun _ _ => SL.nil) _ M) (Nat.le_refl _) r2 h_r2)) ?_
  have M0 := M; clear K M; rintro _ a w ⟨A, c, rfl, M⟩ K
  replace M := M0.call M; clear M0
  refine X_o K M ?_; clear K
  iterate 2 (refine Y_o M ?_)
  intro a K
  refine X_a K (ac_alloc rfl z45 M) ?_
  clear K M; rintro _ a w ⟨g__, rfl, M⟩ K
  refine X_b K (ac_storeA rfl ty45 K rfl (ds := [I r2.1, I r2.2.1, .slice A r2.2.2.1.length c]) rfl rfl 0 M rfl rfl rfl) ?_
  clear K M; rintro _ a w M K
  refine X_o K M ?_; clear K; intro a K
  refine wpList_nil (then_n (wp_seq (X_reg ?_)))
  refine X_o K M ?_; clear K
  refine Y_o M ?_; intro a K
  refine wpList_nil (then_n ?_)
  refine X_cond K rfl (fun hb => ?_) (fun hb => ?_)
  · have h := ctrue hb h
    refine wp_seq (X_reg ?_)
    refine X_r K (rd_build rfl K (vs := []) (cs := [I 0, I 0, .slice none (([] : List (Int × Int × Int))).length 0]) rfl (by kernel_rfl)) M ?_; clear K
    refine Y_o M ?_; intro a K
    refine X_b K (ac_storeA rfl ty24 K rfl (ds := [I 0, I 0, .slice none (([] : List (Int × Int × Int))).length 0]) rfl rfl 2 M rfl rfl rfl) ?_
    clear K M; rintro _ a w M K
    refine X_o K M ?_; clear K; intro a K
    refine wpList_nil (then_n (wp_ret (then_r ?_)))
    cases h
    exact ret2 K rfl (res_cellA K rfl ty24 (M.blkAt (i := 2) rfl) rfl) (res_tmp K rfl) ⟨_, rfl, _, _, rfl, (((Mem.nilrow 34 3 cIII M)).pick [0] (by decide))⟩
  have h := cfalse hb h
  refine wp_skip (then_n (wp_seq (wp_seq (X_reg ?_))))
  refine X_o K M ?_; clear K
  iterate 2 (refine Y_o M ?_)
  intro a K
  rcases Bool.eq_false_or_eq_true (decide (phase < 0)) with hb | hb
  · have h := ctrue hb h
    have K := K.reb (s := 22) rfl hb
    refine X_o K M ?_; clear K
    iterate 2 (refine Y_o M ?_)
    intro a K
    refine wpList_nil (then_n ?_)
    refine X_condT K rfl ?_
    refine wp_seq (X_reg ?_)
    refine X_r K (rd_build rfl K (vs := []) (cs := [I 0, I 0, .slice none (([] : List (Int × Int × Int))).length 0]) rfl (by kernel_rfl)) M ?_; clear K; intro a K
    refine X_b K (ac_storeA rfl ty24 K rfl (ds := [I 0, I 0, .slice none (([] : List (Int × Int × Int))).length 0]) rfl rfl 2 M rfl rfl rfl) ?_
    clear K M; rintro _ a w M K
    refine X_o K M ?_; clear K; intro a K
    refine wpList_nil (then_n (wp_ret (then_r ?_)))
    cases h
    exact ret2 K rfl (res_cellA K rfl ty24 (M.blkAt (i := 2) rfl) rfl) (res_tmp K rfl) ⟨_, rfl, _, _, rfl, (((Mem.nilrow 34 3 cIII M)).pick [0] (by decide))⟩
  have h := cfalse hb h
  have K := K.reb (s := 22) rfl hb
  refine X_o K M ?_; clear K
  iterate 2 (refine Y_o M ?_)
  intro a K
  refine wpList_nil (then_n ?_)
  refine X_cond K rfl (fun hb => ?_) (fun hb => ?_)
  · have h := ctrue hb h
    refine wp_seq (X_reg ?_)
    refine X_r K (rd_build rfl K (vs := []) (cs := [I 0, I 0, .slice none (([] : List (Int × Int × Int))).length 0]) rfl (by kernel_rfl)) M ?_; clear K; intro a K
    refine X_b K (ac_storeA rfl ty24 K rfl (ds := [I 0, I 0, .slice none (([] : List (Int × Int × Int))).length 0]) rfl rfl 2 M rfl rfl rfl) ?_
    clear K M; rintro _ a w M K
    refine X_o K M ?_; clear K; intro a K
    refine wpList_nil (then_n (wp_ret (then_r ?_)))
    cases h
    exact ret2 K rfl (res_cellA K rfl ty24 (M.blkAt (i := 2) rfl) rfl) (res_tmp K rfl) ⟨_, rfl, _, _, rfl, (((Mem.nilrow 34 3 cIII M)).pick [0] (by decide))⟩
  have h := cfalse hb h
  refine wp_skip (then_n (wp_seq (X_reg ?_)))
  refine X_r K (rd_field rfl fld45_0 K rfl) M ?_; clear K
  refine Y_r (fun _ K => rd_ldC rfl sc3 K rfl (inM 3 rfl) rfl) M ?_
  refine Y_r (fun _ K => rd_field rfl fld45_1 K rfl) M ?_
  refine Y_r (fun _ K => rd_ldC rfl sc3 K rfl (inM 3 rfl) rfl) M ?_
  refine Y_r (fun _ K => rd_build rfl K (vs := [(0, I p_W), (1, I p_H)]) (cs := [I p_W, I p_H, .slice none (([] : List (Int × Int × Int))).length 0]) rfl (by kernel_rfl)) M ?_; intro a K
  refine X_a K (ac_alloc rfl z24 M) ?_
  clear K M; rintro _ a w ⟨g_out, rfl, M⟩ K
  refine X_b K (ac_storeA rfl ty24 K rfl (ds := [I p_W, I p_H, .slice none (([] : List (Int × Int × Int))).length 0]) rfl rfl 0 M rfl rfl rfl) ?_
  clear K M; rintro _ a w M K
  refine wpList_nil (then_n (wp_seq (wp_seq (X_reg ?_))))
  refine X_r K (rd_field rfl fld45_1 K rfl) M ?_; clear K
  refine Y_r (fun _ K => rd_ldC rfl sc3 K rfl (inM 4 rfl) rfl) M ?_
  refine Y_o M ?_; intro a K
  refine wpList_nil (then_n (wp_block ?_))
  replace M := Mem.nilrow 34 3 cIII M
  refine X_lp (id := 0) (Rel := fun (⟨out_P, i⟩ : List (Int × Int × Int) × Int) a w => ∃ (A2 : Option Addr) (c2 : Nat), Kn a 55 [(1, I phase), (2, .pointer (some ⟨g_p, 0, none⟩)), (4, .pointer (some ⟨g_x, 0, none⟩)), (8, .pointer (some ⟨g_out, 0, none⟩)), (33, I p_H), (34, I i)] ∧ Mem w0.heap.size w0 w [.row 34 3 A2 out_P.length c2 (cIII.all out_P), .blk g_out 24 [I p_W, I p_H, .slice A2 out_P.length c2], .blk g_x 24 [I 0, I 0, .slice none (([] : List (Int × Int × Int))).length 0], .blk g_p 45 [I p_W, I p_H, .slice A_p_P p_P.length c_p_P]]) h (fun _ _ => rfl) ⟨none, 0, K.pick [1,2,4,8,33,34], M.pick [0,1,4,5] (by decide)⟩ ?_ ?_
  · clear K M h
    rintro ⟨out_P8, i5⟩ a w ⟨A9, c9, K, M⟩ h
    try dsimp only at h
    refine inb_e ?_
    refine then_n (wp_seq (X_reg ?_))
    refine X_r K (rd_ldA rfl ty24 K rfl (inM 1 rfl) rfl rfl) M ?_; clear K; intro a K
    refine X_b K (ac_storeA rfl ty24 K rfl (ds := [I p_W, I p_H, .slice A9 out_P8.length c9]) rfl rfl 2 M rfl rfl rfl) ?_
    clear K M; rintro _ a w M K
    refine X_o K M ?_; clear K; intro a K
    refine wpList_nil (then_n (wp_ret ?_))
    cases h
    exact ret2 K rfl (res_cellA K rfl ty24 (M.blkAt (i := 2) rfl) rfl) (res_tmp K rfl) ⟨_, rfl, _, _, rfl, ((M).pick [0] (by decide))⟩
  clear K M h
  rintro kk fuel ⟨out_P, i⟩ a w hk1 ⟨A2, c2, K, M⟩ h
  unfold D_mosaic_Fill_l1 at h
  refine wp_seq (X_reg ?_)
  refine X_o K M ?_; clear K; intro a K
  refine wpList_nil (then_n (wp_seq ?_))
  refine X_cond K rfl (fun hb => ?_) (fun hb => ?_)
  · have h := ctrue hb h
    refine wp_skip (then_n (wp_seq (wp_block (wp_seq (X_reg ?_)))))
    refine X_o K M ?_; clear K
    refine Y_o M ?_; intro a K
    refine wpList_nil (then_n (wp_seq (X_reg ?_)))
    refine X_r K (rd_field rfl fld45_0 K rfl) M ?_; clear K
    refine Y_r (fun _ K => rd_ldC rfl sc3 K rfl (inM 3 rfl) rfl) M ?_
    refine Y_o M ?_; intro a K
    refine wpList_nil (then_n (wp_block ?_))
    refine X_lp (id := 2) (Rel := fun (⟨out_P4, i3⟩ : List (Int × Int × Int) × Int) a w => ∃ (A5 : Option Addr) (c5 : Nat), Kn a 55 [(1, I phase), (2, .pointer (some ⟨g_p, 0, none⟩)), (4, .pointer (some ⟨g_x, 0, none⟩)), (8, .pointer (some ⟨g_out, 0, none⟩)), (33, I p_H), (34, I i), (9, I i), (38, I p_W), (39, I i3)] ∧ Mem w0.heap.size w0 w [.row 34 3 A5 out_P4.length c5 (cIII.all out_P4), .blk g_out 24 [I p_W, I p_H, .slice A5 out_P4.length c5], .blk g_x 24 [I 0, I 0, .slice none (([] : List (Int × Int × Int))).length 0], .blk g_p 45 [I p_W, I p_H, .slice A_p_P p_P.length c_p_P]]) h (fun _ _ => rfl) ⟨A2, c2, K.pick [1,2,4,8,33,34,9,38,39], M.pick [0,1,2,3] (by decide)⟩ ?_ ?_
    · clear K M h
      rintro ⟨out_P7, i4⟩ a w ⟨A8, c8, K, M⟩ h
      try dsimp only at h
      refine inb_e ?_
      refine inb_n (then_n (X_reg ?_))
      refine X_o K M ?_; clear K
      refine Y_o M ?_; intro a K
      refine wpList_nil ?_
      exact then_n ⟨(out_P7, IntKind.i64.wrap (i + 1)), ⟨A8, c8, K.pick [1,2,4,8,33,34], M.pick [0,1,2,3] (by decide)⟩, h⟩
    clear K M h
    rintro kk fuel ⟨out_P4, i3⟩ a w hk2 ⟨A5, c5, K, M⟩ h
    unfold D_mosaic_Fill_l2 at h
    refine wp_seq (X_reg ?_)
    refine X_o K M ?_; clear K; intro a K
    refine wpList_nil (then_n (wp_seq ?_))
    refine X_cond K rfl (fun hb => ?_) (fun hb => ?_)
    · have h := ctrue hb h
      refine wp_skip (then_n (wp_seq (wp_block (wp_seq (X_reg ?_)))))
      refine X_o K M ?_; clear K
      refine Y_o M ?_; intro a K
      refine wpList_nil (then_n ?_)
      refine wp_region_tl (fun w => Mem _ _ w _) [0,0,0,0,0,0,1,1,1,0,2] (by kernel_rfl) (by kernel_rfl) (M.pick [1,2,3] (by decide)).drew ?_
      replace M := M.drew
      refine T_r K (rd_field rfl fld24_2 K rfl) ?_; clear K
      refine U_r (fun _ K => rd_ldC rfl sc22 K rfl (inM 0 rfl) rfl) ?_
      refine U_r (fun _ K => rd_ldA rfl ty45 K rfl (inM 2 rfl) rfl rfl) ?_
      iterate 3 (refine U_o ?_)
      intro a K
      obtain ⟨r5, h_r5, h⟩ := obind h
      refine T_a K (ac_call (vs := [.agg #[I p_W, I p_H, .slice A_p_P p_P.length c_p_P], I phase, I i3, I i]) (cap := []) rfl fok105 K rfl rfl (W_mosaic_pixel N p_W p_H p_P A_p_P c_p_P phase i3 i _ ((inA R_p_P) _ M) C_p_P r5 h_r5)) ?_
      have M0 := M; clear K M; rintro _ a w ⟨rfl, M⟩ K
      replace M := M0.call M; clear M0
      refine ⟨M.pick [1,2,3] (by decide), ?_⟩
      refine T_a K (ac_bslice rfl sl22 z34 K (vs := [(0, .agg #[I r5.1, I r5.2.1, I r5.2.2])]) (cs := [I r5.1, I r5.2.1, I r5.2.2]) rfl (by kernel_rfl) rfl rfl M) ?_
      have M0 := M; clear K M; rintro _ a w ⟨gs3, rfl, M⟩ K
      replace M := M.asRow 0 rfl cIII ([(r5.1, r5.2.1, r5.2.2)] : List (Int × Int × Int)) (n := 1) rfl rfl rfl
      clear M0
      refine ⟨M.pick [2,3,4] (by decide), ?_⟩
      obtain ⟨out_P6, h_out_P6, h⟩ := obind h
      refine T_a K (ac_app (C := cIII) (xs := out_P4) (ys := ([(r5.1, r5.2.1, r5.2.2)] : List (Int × Int × Int))) rfl sl22 rfl z34 rfl rfl K rfl rfl 1 M rfl ((inR (C := cIII) 0 rfl rfl) _ M) h_out_P6) ?_
      clear K M; rintro _ a w ⟨A7, c7, rfl, M⟩ K
      refine ⟨M.pick [2,3,4] (by decide), ?_⟩
      refine T_r K (rd_field rfl fld24_2 K rfl) ?_; clear K; intro a K
      refine T_b K (ac_storeC rfl sc22 K rfl rfl rfl 2 M rfl rfl) ?_
      clear K M; rintro _ a w M K
      refine T_end ?_
      refine inb_n (then_n (X_reg ?_))
      refine X_o K M ?_; clear K
      refine Y_o M ?_; intro a K
      refine wpList_nil ?_
      exact then_n ⟨(out_P6, IntKind.i64.wrap (i3 + 1)), ⟨A7, c7, K.pick [1,2,4,8,33,34,9,38,39], M.pick [1,2,3,4] (by decide)⟩, h⟩
    have h := cfalse hb h
    refine wp_exit ?_
    refine then_e ?_
    exact then_e (hk2 (out_P4, i3) _ _ ⟨A5, c5, K.pick [1,2,4,8,33,34,9,38,39], M.pick [0,1,2,3] (by decide)⟩ h)
  have h := cfalse hb h
  refine wp_exit ?_
  refine then_e ?_
  exact then_e (hk1 (out_P, i) _ _ ⟨A2, c2, K.pick [1,2,4,8,33,34], M.pick [0,1,2,3] (by decide)⟩ h)
set_option maxRecDepth 100000 in
set_option maxHeartbeats 4000000 in
theorem W_mosaic_fine (N : Nat) (q_W : Int) (q_H : Int) (q_P : List (Int × Int × Int)) (A_q_P : Option Addr) (c_q_P : Nat) (w0 : World) (R_q_P : SL w0 cIII A_q_P q_P) (C_q_P : q_P.length ≤ c_q_P) (r : Bool) (h : D_mosaic_fine N q_W q_H q_P = some r) :
    Calls Try.prog 73 #[.agg #[I q_W, I q_H, .slice A_q_P q_P.length c_q_P]] w0 fun e w' => ∃ v, e = .returned v ∧ v = .bool r ∧ Mem w0.heap.size w0 w' [] := by
  refine X_enter Try.func73 rfl Try.ntmps73 rfl ?_
  intro a K
  have M := Mem.start w0
  have K : Kn a 60 [(0, .agg #[I q_W, I q_H, .slice A_q_P q_P.length c_q_P])] := K
  unfold D_mosaic_fine at h
  refine wp_seq (X_reg ?_)
  refine X_a K (ac_box rfl K rfl (cs := [I q_W, I q_H, .slice A_q_P q_P.length c_q_P]) rfl M) ?_
  clear K M; rintro _ a w ⟨g_q, rfl, M⟩ K
  refine X_o K M ?_; clear K; intro a K
  refine wpList_nil (then_n (wp_seq (wp_seq (X_reg ?_))))
  refine X_r K (rd_field rfl fld24_0 K rfl) M ?_; clear K
  refine Y_r (fun _ K => rd_ldC rfl sc3 K rfl (inM 0 rfl) rfl) M ?_
  iterate 2 (refine Y_o M ?_)
  intro a K
  rcases Bool.eq_false_or_eq_true (decide (q_W < 1)) with hb | hb
  · have h := ctrue hb h
    have K := K.reb (s := 8) rfl hb
    refine X_o K M ?_; clear K
    iterate 24 (refine Y_o M ?_)
    intro a K
    refine wpList_nil (then_n ?_)
    refine X_condT K rfl ?_
    refine wp_seq (X_reg ?_)
    refine X_o K M ?_; clear K; intro a K
    refine wpList_nil (then_n (wp_ret (then_r ?_)))
    cases h
    exact ret1 K rfl (res_tmp K rfl) ⟨_, rfl, rfl, ((M).pick [] (by decide))⟩
  have h := cfalse hb h
  have K := K.reb (s := 8) rfl hb
  refine X_r K (rd_field rfl fld24_0 K rfl) M ?_; clear K
  refine Y_r (fun _ K => rd_ldC rfl sc3 K rfl (inM 0 rfl) rfl) M ?_
  iterate 3 (refine Y_o M ?_)
  intro a K
  rcases Bool.eq_false_or_eq_true (decide (64 < q_W)) with hb | hb
  · have h := ctrue hb h
    have K := K.reb (s := 13) rfl hb
    refine X_o K M ?_; clear K
    iterate 19 (refine Y_o M ?_)
    intro a K
    refine wpList_nil (then_n ?_)
    refine X_condT K rfl ?_
    refine wp_seq (X_reg ?_)
    refine X_o K M ?_; clear K; intro a K
    refine wpList_nil (then_n (wp_ret (then_r ?_)))
    cases h
    exact ret1 K rfl (res_tmp K rfl) ⟨_, rfl, rfl, ((M).pick [] (by decide))⟩
  have h := cfalse hb h
  have K := K.reb (s := 13) rfl hb
  refine X_r K (rd_field rfl fld24_1 K rfl) M ?_; clear K
  refine Y_r (fun _ K => rd_ldC rfl sc3 K rfl (inM 0 rfl) rfl) M ?_
  iterate 3 (refine Y_o M ?_)
  intro a K
  rcases Bool.eq_false_or_eq_true (decide (q_H < 1)) with hb | hb
  · have h := ctrue hb h
    have K := K.reb (s := 18) rfl hb
    refine X_o K M ?_; clear K
    iterate 14 (refine Y_o M ?_)
    intro a K
    refine wpList_nil (then_n ?_)
    refine X_condT K rfl ?_
    refine wp_seq (X_reg ?_)
    refine X_o K M ?_; clear K; intro a K
    refine wpList_nil (then_n (wp_ret (then_r ?_)))
    cases h
    exact ret1 K rfl (res_tmp K rfl) ⟨_, rfl, rfl, ((M).pick [] (by decide))⟩
  have h := cfalse hb h
  have K := K.reb (s := 18) rfl hb
  refine X_r K (rd_field rfl fld24_1 K rfl) M ?_; clear K
  refine Y_r (fun _ K => rd_ldC rfl sc3 K rfl (inM 0 rfl) rfl) M ?_
  iterate 3 (refine Y_o M ?_)
  intro a K
  rcases Bool.eq_false_or_eq_true (decide (64 < q_H)) with hb | hb
  · have h := ctrue hb h
    have K := K.reb (s := 23) rfl hb
    refine X_o K M ?_; clear K
    iterate 9 (refine Y_o M ?_)
    intro a K
    refine wpList_nil (then_n ?_)
    refine X_condT K rfl ?_
    refine wp_seq (X_reg ?_)
    refine X_o K M ?_; clear K; intro a K
    refine wpList_nil (then_n (wp_ret (then_r ?_)))
    cases h
    exact ret1 K rfl (res_tmp K rfl) ⟨_, rfl, rfl, ((M).pick [] (by decide))⟩
  have h := cfalse hb h
  have K := K.reb (s := 23) rfl hb
  refine X_r K (rd_field rfl fld24_2 K rfl) M ?_; clear K
  refine Y_r (fun _ K => rd_ldC rfl sc22 K rfl (inM 0 rfl) rfl) M ?_
  refine Y_r (fun _ K => rd_len rfl un22 K rfl) M ?_
  refine Y_r (fun _ K => rd_field rfl fld24_0 K rfl) M ?_
  refine Y_r (fun _ K => rd_ldC rfl sc3 K rfl (inM 0 rfl) rfl) M ?_
  refine Y_r (fun _ K => rd_field rfl fld24_1 K rfl) M ?_
  refine Y_r (fun _ K => rd_ldC rfl sc3 K rfl (inM 0 rfl) rfl) M ?_
  iterate 3 (refine Y_o M ?_)
  intro a K
  refine wpList_nil (then_n ?_)
  refine X_cond K rfl (fun hb => ?_) (fun hb => ?_)
  · have h := ctrue hb h
    refine wp_seq (X_reg ?_)
    refine X_o K M ?_; clear K; intro a K
    refine wpList_nil (then_n (wp_ret (then_r ?_)))
    cases h
    exact ret1 K rfl (res_tmp K rfl) ⟨_, rfl, rfl, ((M).pick [] (by decide))⟩
  have h := cfalse hb h
  refine wp_skip (then_n (wp_seq (wp_seq (X_reg ?_))))
  refine X_r K (rd_field rfl fld24_2 K rfl) M ?_; clear K
  refine Y_r (fun _ K => rd_ldC rfl sc22 K rfl (inM 0 rfl) rfl) M ?_
  refine Y_r (fun _ K => rd_len rfl un22 K rfl) M ?_
  refine Y_o M ?_; intro a K
  refine wpList_nil (then_n (wp_block ?_))
  refine X_lp (id := 0) (Rel := fun (i : Int) a w => Kn a 60 [(35, .slice A_q_P q_P.length c_q_P), (36, I (q_P.length : Int)), (37, I i)] ∧ Mem w0.heap.size w0 w []) h (fun _ _ => rfl) ⟨K.pick [35,36,37], M.pick [] (by decide)⟩ ?_ ?_
  · clear K M h
    rintro i2 a w ⟨K, M⟩ h
    try dsimp only at h
    refine inb_e ?_
    refine then_n (wp_seq (X_reg ?_))
    refine X_o K M ?_; clear K; intro a K
    refine wpList_nil (then_n (wp_ret ?_))
    cases h
    exact ret1 K rfl (res_tmp K rfl) ⟨_, rfl, rfl, ((M).pick [] (by decide))⟩
  clear K M h
  rintro kk fuel i a w hk1 ⟨K, M⟩ h
  unfold D_mosaic_fine_l1 at h
  refine wp_seq (X_reg ?_)
  refine X_o K M ?_; clear K; intro a K
  refine wpList_nil (then_n (wp_seq ?_))
  refine X_cond K rfl (fun hb => ?_) (fun hb => ?_)
  · have h := ctrue hb h
    refine wp_skip (then_n (wp_seq (wp_block (wp_seq (X_reg ?_)))))
    obtain ⟨e2, h_e2, h⟩ := obind h
    refine X_r K (rd_ix rfl sl22 K rfl rfl (inA R_q_P) h_e2) M ?_; clear K
    refine Y_r (fun _ K => rd_elA rfl ty34 K rfl rfl rfl (inA R_q_P) h_e2) M ?_; intro a K
    refine X_a K (ac_alloc rfl z34 M) ?_
    clear K M; rintro _ a w ⟨g_c2, rfl, M⟩ K
    refine X_b K (ac_storeA rfl ty34 K rfl (ds := [I e2.1, I e2.2.1, I e2.2.2]) rfl rfl 0 M rfl rfl rfl) ?_
    clear K M; rintro _ a w M K
    refine wpList_nil (then_n (wp_seq (X_reg ?_)))
    refine X_r K (rd_field rfl fld34_0 K rfl) M ?_; clear K
    refine Y_r (fun _ K => rd_ldC rfl sc3 K rfl (inM 0 rfl) rfl) M ?_
    refine Y_r (fun _ K => rd_field rfl fld34_1 K rfl) M ?_
    refine Y_r (fun _ K => rd_ldC rfl sc3 K rfl (inM 0 rfl) rfl) M ?_
    refine Y_r (fun _ K => rd_field rfl fld34_2 K rfl) M ?_
    refine Y_r (fun _ K => rd_ldC rfl sc3 K rfl (inM 0 rfl) rfl) M ?_
    refine Y_r (fun _ K => rd_min3 rfl K rfl rfl rfl) M ?_
    iterate 2 (refine Y_o M ?_)
    intro a K
    rcases Bool.eq_false_or_eq_true (decide ((min (min e2.1 e2.2.1) e2.2.2) < 0)) with hb | hb
    · have h := ctrue hb h
      have K := K.reb (s := 49) rfl hb
      refine X_o K M ?_; clear K
      iterate 8 (refine Y_o M ?_)
      intro a K
      refine wpList_nil (then_n ?_)
      refine X_condT K rfl ?_
      refine wp_seq (X_reg ?_)
      refine X_o K M ?_; clear K; intro a K
      refine wpList_nil (then_n (wp_ret (inb_r (then_r (then_r (inb_r (then_r ?_)))))))
      cases h
      exact ret1 K rfl (res_tmp K rfl) ⟨_, rfl, rfl, ((M).pick [] (by decide))⟩
    have h := cfalse hb h
    have K := K.reb (s := 49) rfl hb
    refine X_r K (rd_field rfl fld34_0 K rfl) M ?_; clear K
    refine Y_r (fun _ K => rd_ldC rfl sc3 K rfl (inM 0 rfl) rfl) M ?_
    refine Y_r (fun _ K => rd_field rfl fld34_1 K rfl) M ?_
    refine Y_r (fun _ K => rd_ldC rfl sc3 K rfl (inM 0 rfl) rfl) M ?_
    refine Y_r (fun _ K => rd_field rfl fld34_2 K rfl) M ?_
    refine Y_r (fun _ K => rd_ldC rfl sc3 K rfl (inM 0 rfl) rfl) M ?_
    refine Y_r (fun _ K => rd_max3 rfl K rfl rfl rfl) M ?_
    iterate 2 (refine Y_o M ?_)
    intro a K
    refine wpList_nil (then_n ?_)
    refine X_cond K rfl (fun hb => ?_) (fun hb => ?_)
    · have h := ctrue hb h
      refine wp_seq (X_reg ?_)
      refine X_o K M ?_; clear K; intro a K
      refine wpList_nil (then_n (wp_ret (inb_r (then_r (then_r (inb_r (then_r ?_)))))))
      cases h
      exact ret1 K rfl (res_tmp K rfl) ⟨_, rfl, rfl, ((M).pick [] (by decide))⟩
    have h := cfalse hb h
    refine wp_skip (inb_n (then_n (X_reg ?_)))
    refine X_o K M ?_; clear K
    refine Y_o M ?_; intro a K
    refine wpList_nil ?_
    exact then_n ⟨(IntKind.i64.wrap (i + 1)), ⟨K.pick [35,36,37], M.pick [] (by decide)⟩, h⟩
  have h := cfalse hb h
  refine wp_exit ?_
  refine then_e ?_
  exact then_e (hk1 i _ _ ⟨K.pick [35,36,37], M.pick [] (by decide)⟩ h)
set_option maxRecDepth 100000 in
set_option maxHeartbeats 4000000 in
theorem W_mosaic_Take (N : Nat) (q_W : Int) (q_H : Int) (q_P : List (Int × Int × Int)) (A_q_P : Option Addr) (c_q_P : Nat) (phase : Int) (w0 : World) (R_q_P : SL w0 cIII A_q_P q_P) (C_q_P : q_P.length ≤ c_q_P) (r : Int × Int × List Int × Int) (h : D_mosaic_Take N q_W q_H q_P phase = some r) :
    Calls Try.prog 56 #[.agg #[I q_W, I q_H, .slice A_q_P q_P.length c_q_P], I phase] w0 fun e w' => ∃ v, e = .returned v ∧ ∃ A2 c2, v = .tuple #[.agg #[I r.1, I r.2.1, .slice A2 r.2.2.1.length c2], I r.2.2.2] ∧ Mem w0.heap.size w0 w' [.row 3 1 A2 r.2.2.1.length c2 ((cI .i64).all r.2.2.1)] := by
  refine X_enter Try.func56 rfl Try.ntmps56 rfl ?_
  intro a K
  have M := Mem.start w0
  have K : Kn a 60 [(0, .agg #[I q_W, I q_H, .slice A_q_P q_P.length c_q_P]), (1, I phase)] := K
  unfold D_mosaic_Take at h
  refine wp_seq (X_reg ?_)
  refine X_a K (ac_box rfl K rfl (cs := [I q_W, I q_H, .slice A_q_P q_P.length c_q_P]) rfl M) ?_
  clear K M; rintro _ a w ⟨g_q, rfl, M⟩ K
  refine X_a K (ac_alloc rfl z45 M) ?_
  clear K M; rintro _ a w ⟨g_x, rfl, M⟩ K
  refine X_o K M ?_; clear K; intro a K
  refine wpList_nil (then_n (wp_seq (wp_seq (X_reg ?_))))
  refine X_r K (rd_ldA rfl ty24 K rfl (inM 1 rfl) rfl rfl) M ?_; clear K; intro a K
  obtain ⟨r2, h_r2, h⟩ := obind h
  refine X_a K (ac_call (vs := [.agg #[I q_W, I q_H, .slice A_q_P q_P.length c_q_P]]) (cap := []) rfl fok73 K rfl rfl (W_mosaic_fine N q_W q_H q_P A_q_P c_q_P _ ((inA R_q_P) _ M) C_q_P r2 h_r2)) ?_
  have M0 := M; clear K M; rintro _ a w ⟨rfl, M⟩ K
  replace M := M0.call M; clear M0
  refine X_o K M ?_; clear K; intro a K
  refine wpList_nil (then_n ?_)
  refine X_cond K rfl (fun hb => ?_) (fun hb => ?_)
  · have h := ctrue hb h
    refine wp_seq (X_reg ?_)
    refine X_r K (rd_build rfl K (vs := []) (cs := [I 0, I 0, .slice none ([] : List Int).length 0]) rfl (by kernel_rfl)) M ?_; clear K; intro a K
    refine X_b K (ac_storeA rfl ty45 K rfl (ds := [I 0, I 0, .slice none ([] : List Int).length 0]) rfl rfl 0 M rfl rfl rfl) ?_
    clear K M; rintro _ a w M K
    refine X_o K M ?_; clear K; intro a K
    refine wpList_nil (then_n (wp_ret (then_r ?_)))
    cases h
    exact ret2 K rfl (res_cellA K rfl ty45 (M.blkAt (i := 0) rfl) rfl) (res_tmp K rfl) ⟨_, rfl, _, _, rfl, (((Mem.nilrow 3 1 (cI .i64) M)).pick [0] (by decide))⟩
  have h := cfalse hb h
  refine wp_skip (then_n (wp_seq (wp_seq (X_reg ?_))))
  refine X_o K M ?_; clear K
  iterate 2 (refine Y_o M ?_)
  intro a K
  rcases Bool.eq_false_or_eq_true (decide (phase < 0)) with hb | hb
  · have h := ctrue hb h
    have K := K.reb (s := 16) rfl hb
    refine X_o K M ?_; clear K
    iterate 2 (refine Y_o M ?_)
    intro a K
    refine wpList_nil (then_n ?_)
    refine X_condT K rfl ?_
    refine wp_seq (X_reg ?_)
    refine X_r K (rd_build rfl K (vs := []) (cs := [I 0, I 0, .slice none ([] : List Int).length 0]) rfl (by kernel_rfl)) M ?_; clear K; intro a K
    refine X_b K (ac_storeA rfl ty45 K rfl (ds := [I 0, I 0, .slice none ([] : List Int).length 0]) rfl rfl 0 M rfl rfl rfl) ?_
    clear K M; rintro _ a w M K
    refine X_o K M ?_; clear K; intro a K
    refine wpList_nil (then_n (wp_ret (then_r ?_)))
    cases h
    exact ret2 K rfl (res_cellA K rfl ty45 (M.blkAt (i := 0) rfl) rfl) (res_tmp K rfl) ⟨_, rfl, _, _, rfl, (((Mem.nilrow 3 1 (cI .i64) M)).pick [0] (by decide))⟩
  have h := cfalse hb h
  have K := K.reb (s := 16) rfl hb
  refine X_o K M ?_; clear K
  iterate 2 (refine Y_o M ?_)
  intro a K
  refine wpList_nil (then_n ?_)
  refine X_cond K rfl (fun hb => ?_) (fun hb => ?_)
  · have h := ctrue hb h
    refine wp_seq (X_reg ?_)
    refine X_r K (rd_build rfl K (vs := []) (cs := [I 0, I 0, .slice none ([] : List Int).length 0]) rfl (by kernel_rfl)) M ?_; clear K; intro a K
    refine X_b K (ac_storeA rfl ty45 K rfl (ds := [I 0, I 0, .slice none ([] : List Int).length 0]) rfl rfl 0 M rfl rfl rfl) ?_
    clear K M; rintro _ a w M K
    refine X_o K M ?_; clear K; intro a K
    refine wpList_nil (then_n (wp_ret (then_r ?_)))
    cases h
    exact ret2 K rfl (res_cellA K rfl ty45 (M.blkAt (i := 0) rfl) rfl) (res_tmp K rfl) ⟨_, rfl, _, _, rfl, (((Mem.nilrow 3 1 (cI .i64) M)).pick [0] (by decide))⟩
  have h := cfalse hb h
  refine wp_skip (then_n (wp_seq (X_reg ?_)))
  refine X_r K (rd_field rfl fld24_0 K rfl) M ?_; clear K
  refine Y_r (fun _ K => rd_ldC rfl sc3 K rfl (inM 1 rfl) rfl) M ?_
  refine Y_r (fun _ K => rd_field rfl fld24_1 K rfl) M ?_
  refine Y_r (fun _ K => rd_ldC rfl sc3 K rfl (inM 1 rfl) rfl) M ?_
  refine Y_r (fun _ K => rd_build rfl K (vs := [(0, I q_W), (1, I q_H)]) (cs := [I q_W, I q_H, .slice none ([] : List Int).length 0]) rfl (by kernel_rfl)) M ?_; intro a K
  refine X_a K (ac_alloc rfl z45 M) ?_
  clear K M; rintro _ a w ⟨g_out, rfl, M⟩ K
  refine X_b K (ac_storeA rfl ty45 K rfl (ds := [I q_W, I q_H, .slice none ([] : List Int).length 0]) rfl rfl 0 M rfl rfl rfl) ?_
  clear K M; rintro _ a w M K
  refine wpList_nil (then_n (wp_seq (wp_seq (X_reg ?_))))
  refine X_r K (rd_field rfl fld24_2 K rfl) M ?_; clear K
  refine Y_r (fun _ K => rd_ldC rfl sc22 K rfl (inM 2 rfl) rfl) M ?_
  refine Y_r (fun _ K => rd_len rfl un22 K rfl) M ?_
  refine Y_o M ?_; intro a K
  refine wpList_nil (then_n (wp_block ?_))
  replace M := Mem.nilrow 3 1 (cI .i64) M
  refine X_lp (id := 0) (Rel := fun (⟨out_P, i⟩ : List Int × Int) a w => ∃ (A : Option Addr) (c : Nat), Kn a 60 [(1, I phase), (2, .pointer (some ⟨g_q, 0, none⟩)), (4, .pointer (some ⟨g_x, 0, none⟩)), (6, .pointer (some ⟨g_out, 0, none⟩)), (28, I (q_P.length : Int)), (29, I i)] ∧ Mem w0.heap.size w0 w [.row 3 1 A out_P.length c ((cI .i64).all out_P), .blk g_out 45 [I q_W, I q_H, .slice A out_P.length c], .blk g_x 45 [I 0, I 0, .slice none ([] : List Int).length 0], .blk g_q 24 [I q_W, I q_H, .slice A_q_P q_P.length c_q_P]]) h (fun _ _ => rfl) ⟨none, 0, K.pick [1,2,4,6,28,29], M.pick [0,1,2,3] (by decide)⟩ ?_ ?_
  · clear K M h
    rintro ⟨out_P8, i2⟩ a w ⟨A8, c8, K, M⟩ h
    try dsimp only at h
    refine inb_e ?_
    refine then_n (wp_seq (X_reg ?_))
    refine X_r K (rd_ldA rfl ty45 K rfl (inM 1 rfl) rfl rfl) M ?_; clear K; intro a K
    refine X_b K (ac_storeA rfl ty45 K rfl (ds := [I q_W, I q_H, .slice A8 out_P8.length c8]) rfl rfl 2 M rfl rfl rfl) ?_
    clear K M; rintro _ a w M K
    refine X_o K M ?_; clear K; intro a K
    refine wpList_nil (then_n (wp_ret ?_))
    cases h
    exact ret2 K rfl (res_cellA K rfl ty45 (M.blkAt (i := 2) rfl) rfl) (res_tmp K rfl) ⟨_, rfl, _, _, rfl, ((M).pick [0] (by decide))⟩
  clear K M h
  rintro kk fuel ⟨out_P, i⟩ a w hk1 ⟨A, c, K, M⟩ h
  unfold D_mosaic_Take_l1 at h
  refine wp_seq (X_reg ?_)
  refine X_o K M ?_; clear K; intro a K
  refine wpList_nil (then_n (wp_seq ?_))
  refine X_cond K rfl (fun hb => ?_) (fun hb => ?_)
  · have h := ctrue hb h
    refine wp_skip (then_n (wp_seq (wp_block (wp_seq (X_reg ?_)))))
    refine X_o K M ?_; clear K
    refine Y_o M ?_; intro a K
    refine wpList_nil (then_n (wp_seq ?_))
    refine wp_region_tl (fun w => Mem _ _ w _) [0,0,0,0,0,0,0,0,0,1,0,0,0,0,0] (by kernel_rfl) (by kernel_rfl) M.drew ?_
    replace M := M.drew
    refine T_o K ?_; clear K
    refine U_o ?_
    refine U_r (fun _ K => rd_field rfl fld24_0 K rfl) ?_
    refine U_r (fun _ K => rd_ldC rfl sc3 K rfl (inM 3 rfl) rfl) ?_; intro a K
    obtain ⟨_, h0, h⟩ := obind h
    have h0 := nz_spec h0
    refine T_r K (rd_rem rfl K rfl rfl h0) ?_; clear K
    refine U_o ?_
    refine U_r (fun _ K => rd_field rfl fld24_0 K rfl) ?_
    refine U_r (fun _ K => rd_ldC rfl sc3 K rfl (inM 3 rfl) rfl) ?_; intro a K
    obtain ⟨_, h0, h⟩ := obind h
    have h0 := nz_spec h0
    refine T_r K (rd_quo rfl K rfl rfl h0) ?_; clear K; intro a K
    obtain ⟨r4, h_r4, h⟩ := obind h
    refine T_a K (ac_call (vs := [I phase, I (Int.tmod i q_W), I (IntKind.i64.wrap (Int.tdiv i q_W))]) (cap := []) rfl fok74 K rfl rfl (W_sensor_Colour N phase (Int.tmod i q_W) (IntKind.i64.wrap (Int.tdiv i q_W)) _  r4 h_r4)) ?_
    have M0 := M; clear K M; rintro _ a w ⟨rfl, M⟩ K
    replace M := M0.call M; clear M0
    refine ⟨M.pick [0,1,2,3] (by decide), ?_⟩
    refine T_o K ?_; clear K
    iterate 4 (refine U_o ?_)
    intro a K
    refine T_end ?_
    refine then_n ?_
    refine wp_region_tl (fun w => Mem _ _ w _) [0,0,0,0,0,0,0,1,1,1,1,1,0,2] (by kernel_rfl) (by kernel_rfl) (M.pick [1,2,3] (by decide)).drew ?_
    replace M := M.drew
    refine T_r K (rd_field rfl fld45_2 K rfl) ?_; clear K
    refine U_r (fun _ K => rd_ldC rfl sc43 K rfl (inM 0 rfl) rfl) ?_
    refine U_r (fun _ K => rd_field rfl fld24_2 K rfl) ?_
    refine U_r (fun _ K => rd_ldC rfl sc22 K rfl (inM 2 rfl) rfl) ?_
    refine U_o ?_
    obtain ⟨e2, h_e2, h⟩ := obind h
    refine U_r (fun _ K => rd_ix rfl sl22 K rfl rfl (inA R_q_P) h_e2) ?_
    refine U_o ?_; intro a K
    refine T_inl (vs := [.pointer (some (((adr A_q_P).add (Int.toNat i * 3)))), I r4.1]) (cap := []) K (want_no rfl) rfl rfl rfl fok75 rfl rfl ?_; clear K
    refine X_enter Try.func75 rfl Try.ntmps75 rfl ?_
    intro a K
    have K : Kn a 19 [(0, .pointer (some (((adr A_q_P).add (Int.toNat i * 3))))), (1, I r4.1)] := K
    refine wp_seq (X_reg ?_)
    refine X_o K M ?_; clear K; intro a K
    refine wpList_nil (then_n (wp_seq (wp_seq (X_reg ?_))))
    refine X_o K M ?_; clear K; intro a K
    refine wpList_nil (then_n (wp_block (wp_seq (X_reg ?_))))
    refine X_o K M ?_; clear K
    refine Y_o M ?_; intro a K
    refine wpList_nil (then_n ?_)
    refine X_cond K rfl (fun hb => ?_) (fun hb => ?_)
    · have h := ctrue hb h
      refine wp_seq (X_reg ?_)
      refine X_o K M ?_; clear K
      refine Y_o M ?_
      refine Y_r (fun _ K => rd_field rfl fld34_0 K rfl) M ?_
      refine Y_o M ?_; intro a K
      refine wpList_nil (then_n (wp_ret (inb_r (then_r ?_))))
      refine ret1 K rfl (res_tmp K rfl) ⟨_, rfl, ?_⟩; clear K; intro a K
      refine ⟨M.pick [1,2,3] (by decide), ?_⟩
      refine T_rd1 K (want_no rfl) rfl rfl (rd_nil rfl K rfl) M (M.pick [1,2,3] (by decide)) ?_; clear K; intro a K
      refine T_rd1 K (want_no rfl) rfl rfl (rd_elF rfl sc3 K rfl rfl (inA R_q_P) h_e2 rfl) M (M.pick [1,2,3] (by decide)) ?_; clear K; intro a K
      refine T_a K (ac_bslice rfl sl43 z3 K (vs := [(0, I e2.1)]) (cs := [I e2.1]) rfl (by kernel_rfl) rfl rfl M) ?_
      have M0 := M; clear K M; rintro _ a w ⟨gs4, rfl, M⟩ K
      replace M := M.asRow 0 rfl (cI .i64) ([e2.1] : List Int) (n := 1) rfl rfl rfl
      clear M0
      refine ⟨M.pick [2,3,4] (by decide), ?_⟩
      obtain ⟨out_P5, h_out_P5, h⟩ := obind h
      refine T_a K (ac_app (C := (cI .i64)) (xs := out_P) (ys := ([e2.1] : List Int)) rfl sl43 rfl z3 rfl rfl K rfl rfl 1 M rfl ((inR (C := (cI .i64)) 0 rfl rfl) _ M) h_out_P5) ?_
      clear K M; rintro _ a w ⟨A5, c5, rfl, M⟩ K
      refine ⟨M.pick [2,3,4] (by decide), ?_⟩
      refine T_r K (rd_field rfl fld45_2 K rfl) ?_; clear K; intro a K
      refine T_b K (ac_storeC rfl sc43 K rfl rfl rfl 2 M rfl rfl) ?_
      clear K M; rintro _ a w M K
      refine T_end ?_
      refine inb_n (then_n (X_reg ?_))
      refine X_o K M ?_; clear K
      refine Y_o M ?_; intro a K
      refine wpList_nil ?_
      exact then_n ⟨(out_P5, IntKind.i64.wrap (i + 1)), ⟨A5, c5, K.pick [1,2,4,6,28,29], M.pick [1,2,3,4] (by decide)⟩, h⟩
    have h := cfalse hb h
    refine wp_seq (X_reg ?_)
    refine X_o K M ?_; clear K
    refine Y_o M ?_; intro a K
    refine wpList_nil (then_n ?_)
    refine X_cond K rfl (fun hb => ?_) (fun hb => ?_)
    · have h := ctrue hb h
      refine wp_seq (X_reg ?_)
      refine X_o K M ?_; clear K
      refine Y_o M ?_
      refine Y_r (fun _ K => rd_field rfl fld34_1 K rfl) M ?_
      refine Y_o M ?_; intro a K
      refine wpList_nil (then_n (wp_ret (inb_r (then_r ?_))))
      refine ret1 K rfl (res_tmp K rfl) ⟨_, rfl, ?_⟩; clear K; intro a K
      refine ⟨M.pick [1,2,3] (by decide), ?_⟩
      refine T_rd1 K (want_no rfl) rfl rfl (rd_nil rfl K rfl) M (M.pick [1,2,3] (by decide)) ?_; clear K; intro a K
      refine T_rd1 K (want_no rfl) rfl rfl (rd_elF rfl sc3 K rfl rfl (inA R_q_P) h_e2 rfl) M (M.pick [1,2,3] (by decide)) ?_; clear K; intro a K
      refine T_a K (ac_bslice rfl sl43 z3 K (vs := [(0, I e2.2.1)]) (cs := [I e2.2.1]) rfl (by kernel_rfl) rfl rfl M) ?_
      have M0 := M; clear K M; rintro _ a w ⟨gs5, rfl, M⟩ K
      replace M := M.asRow 0 rfl (cI .i64) ([e2.2.1] : List Int) (n := 1) rfl rfl rfl
      clear M0
      refine ⟨M.pick [2,3,4] (by decide), ?_⟩
      obtain ⟨out_P6, h_out_P6, h⟩ := obind h
      refine T_a K (ac_app (C := (cI .i64)) (xs := out_P) (ys := ([e2.2.1] : List Int)) rfl sl43 rfl z3 rfl rfl K rfl rfl 1 M rfl ((inR (C := (cI .i64)) 0 rfl rfl) _ M) h_out_P6) ?_
      clear K M; rintro _ a w ⟨A6, c6, rfl, M⟩ K
      refine ⟨M.pick [2,3,4] (by decide), ?_⟩
      refine T_r K (rd_field rfl fld45_2 K rfl) ?_; clear K; intro a K
      refine T_b K (ac_storeC rfl sc43 K rfl rfl rfl 2 M rfl rfl) ?_
      clear K M; rintro _ a w M K
      refine T_end ?_
      refine inb_n (then_n (X_reg ?_))
      refine X_o K M ?_; clear K
      refine Y_o M ?_; intro a K
      refine wpList_nil ?_
      exact then_n ⟨(out_P6, IntKind.i64.wrap (i + 1)), ⟨A6, c6, K.pick [1,2,4,6,28,29], M.pick [1,2,3,4] (by decide)⟩, h⟩
    have h := cfalse hb h
    refine wp_skip (inb_n (then_n (wp_seq (X_reg ?_))))
    refine X_o K M ?_; clear K
    refine Y_o M ?_
    refine Y_r (fun _ K => rd_field rfl fld34_2 K rfl) M ?_
    refine Y_o M ?_; intro a K
    refine wpList_nil (then_n (wp_ret ?_))
    refine ret1 K rfl (res_tmp K rfl) ⟨_, rfl, ?_⟩; clear K; intro a K
    refine ⟨M.pick [1,2,3] (by decide), ?_⟩
    refine T_rd1 K (want_no rfl) rfl rfl (rd_nil rfl K rfl) M (M.pick [1,2,3] (by decide)) ?_; clear K; intro a K
    refine T_rd1 K (want_no rfl) rfl rfl (rd_elF rfl sc3 K rfl rfl (inA R_q_P) h_e2 rfl) M (M.pick [1,2,3] (by decide)) ?_; clear K; intro a K
    refine T_a K (ac_bslice rfl sl43 z3 K (vs := [(0, I e2.2.2)]) (cs := [I e2.2.2]) rfl (by kernel_rfl) rfl rfl M) ?_
    have M0 := M; clear K M; rintro _ a w ⟨gs6, rfl, M⟩ K
    replace M := M.asRow 0 rfl (cI .i64) ([e2.2.2] : List Int) (n := 1) rfl rfl rfl
    clear M0
    refine ⟨M.pick [2,3,4] (by decide), ?_⟩
    obtain ⟨out_P7, h_out_P7, h⟩ := obind h
    refine T_a K (ac_app (C := (cI .i64)) (xs := out_P) (ys := ([e2.2.2] : List Int)) rfl sl43 rfl z3 rfl rfl K rfl rfl 1 M rfl ((inR (C := (cI .i64)) 0 rfl rfl) _ M) h_out_P7) ?_
    clear K M; rintro _ a w ⟨A7, c7, rfl, M⟩ K
    refine ⟨M.pick [2,3,4] (by decide), ?_⟩
    refine T_r K (rd_field rfl fld45_2 K rfl) ?_; clear K; intro a K
    refine T_b K (ac_storeC rfl sc43 K rfl rfl rfl 2 M rfl rfl) ?_
    clear K M; rintro _ a w M K
    refine T_end ?_
    refine inb_n (then_n (X_reg ?_))
    refine X_o K M ?_; clear K
    refine Y_o M ?_; intro a K
    refine wpList_nil ?_
    exact then_n ⟨(out_P7, IntKind.i64.wrap (i + 1)), ⟨A7, c7, K.pick [1,2,4,6,28,29], M.pick [1,2,3,4] (by decide)⟩, h⟩
  have h := cfalse hb h
  refine wp_exit ?_
  refine then_e ?_
  exact then_e (hk1 (out_P, i) _ _ ⟨A, c, K.pick [1,2,4,6,28,29], M.pick [0,1,2,3] (by decide)⟩ h)
end Go.Proofs.Ytpmnfhifmmfglab
