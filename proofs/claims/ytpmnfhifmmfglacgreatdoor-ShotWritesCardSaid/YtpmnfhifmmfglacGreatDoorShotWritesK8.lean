/- Texts of the claim ShotWrites, joined and made small by a program. -/
import Derived.LoopIn
import Derived.LoopNIn
import Derived.OwnWalkIn
import Derived.RangeFuncBound
import Derived.RangeFuncCalls
import Derived.RangeFuncFrom
import Derived.RangeFuncLeaves
import Derived.RangeFuncNested
import Derived.Shelf.Abstract
import Derived.Shelf.RegionOpen
import Derived.TacticsInMore
import Derived.Test.YtpmnfhifmmfglacGreatDoorRows
import Derived.WalkKit
import Derived.Test.YtpmnfhifmmfglacGreatDoorShotWritesK1
import Derived.Test.YtpmnfhifmmfglacGreatDoorShotWritesK3
import Derived.Test.YtpmnfhifmmfglacGreatDoorShotWritesK4
import Derived.Test.YtpmnfhifmmfglacGreatDoorShotWritesK5
import Derived.Test.YtpmnfhifmmfglacGreatDoorShotWritesK6
import Derived.Test.YtpmnfhifmmfglacGreatDoorShotWritesK7
set_option linter.unusedVariables false
set_option linter.unusedSimpArgs false
set_option linter.unusedSectionVars false
set_option maxRecDepth 100000
set_option maxHeartbeats 8000000
namespace Go.Proofs.YtpmnfhifmmfglacGreatDoor
section
open Go.RowKit
theorem Dy {N : Nat} {lens : List Int} {NI : Option Addr} {NJ : Nat} {w0 : World} {r : Int} (h : vQ N lens = some r) (Q7 : SL w0 (cI .i64) NI lens) (Y7 : lens.length ≤ NJ) :
  Calls Tryz.prog 118 #[.slice NI lens.length NJ] w0 fun e w' => ∃ v, e = .returned v ∧ v = I r ∧ Mem w0.heap.size w0 w' [] := by
 refine gE Tryz.func118 Tryz.ntmps118 ?_;intro M;unfold vQ at h;refine jL 12 9 h ?_ ?_
 ·intro hb h;exact aZ 14 (M.pick [] aC)
 intro hb h;refine dR 6 h ?_ ?_
 ·intro hb h;exact aZ 7 (M.pick [] aC)
 intro hb h;refine pT 16 0 (fun (⟨room, i⟩ : Int × Int) a w => Kn a 40 [(3, I room), (14, .slice NI lens.length NJ), (15, I (lens.length : Int)), (16, I i)] ∧ Mem w0.heap.size w0 w []) M.nQ ?_ ?_
 ·clear M h;rintro ⟨P9, i2⟩ a w ⟨K, M⟩ h;try dsimp only at h
  revert a;refine jL 8 36 h ?_ ?_
  ·intro hb h;exact aZ 13 (M.pick [] aC)
  intro hb h;refine dR 5 h ?_ ?_
  ·intro hb h;exact aZ 7 (M.pick [] aC)
  intro hb h;exact aZ 8 (M.pick [] aC)
 clear M h;rintro kk fuel ⟨room, i⟩ a w hk1 ⟨K, M⟩ h;unfold tY at h;revert a;refine dR 6 h ?_ ?_
 ·intro hb h;obtain ⟨e2, kA, h⟩ := aB h;refine aI 6 ?_;refine aP (fun _ K => f5 rfl eZ K rfl rfl (dA Q7) kA) M ?_;refine aP (fun _ K => fY rfl iN K rfl rfl (dA Q7) kA rfl) M ?_;refine jL 9 22 h ?_ ?_
  ·intro hb h;exact aZ 18 (M.pick [] aC)
  intro hb h;refine dR 5 h ?_ ?_
  ·intro hb h;exact aZ 12 (M.pick [] aC)
  intro hb h;refine dR 8 h ?_ ?_
  ·intro hb h;obtain ⟨_, h0, h⟩ := aB h;have h0 := nS h0;refine aI 4 ?_;refine aP (fun _ K => pY rfl K rfl rfl h0) M ?_;obtain ⟨P8, hx, h⟩ := gY h;refine rO 1 hx ?_;exact lJ 8 (P8, IntKind.i64.wrap (i + 1)) M.nQ
  intro hb h;exact lJ 8 (room, IntKind.i64.wrap (i + 1)) M.nQ
 intro hb h;exact lS 3 (hk1 (room, i)) M.nQ
theorem IZ {N : Nat} {a2 b : Int} {v0 : List Int} {L9 : Option Addr} {Ma oT : Nat} {w0 : World} {r : Int} (h : Bs N a2 b v0 = some r) (I0 : SL w0 (cI .i64) L9 v0) (Q8 : v0.length ≤ Ma) (qO : gK w0 oT 29 #[.slice L9 v0.length Ma]) :
  Calls Tryz.prog 165 #[I a2, I b, .pointer (some ⟨oT, 0, none⟩)] w0 fun e w' => ∃ v, e = .returned v ∧ v = I r ∧ Mem w0.heap.size w0 w' [] := by
 refine gE Tryz.func165 Tryz.ntmps165 ?_;intro M;unfold Bs at h;refine aI 6 ?_;intro a K;refine aM (fun w => Mem _ _ w _) [0,0,0,0,0,0,0,0,1,0] aF aF M.drew ?_;replace M := M.drew;revert a;obtain ⟨e, Ii, h⟩ := aB h;refine aI 2 ?_;refine fU (fun _ K => fA rfl eZ K rfl rfl ((dA I0) _ M) Ii) ?_;refine fU (fun _ K => fY rfl iN K rfl rfl (dA I0) Ii rfl) ?_;obtain ⟨e2, kA, h⟩ := aB h;refine aI 2 ?_;refine fU (fun _ K => fA rfl eZ K rfl rfl ((dA I0) _ M) kA) ?_;refine fU (fun _ K => fY rfl iN K rfl rfl (dA I0) kA rfl) ?_;obtain ⟨r2, dC, h⟩ := aB h;intro a K;refine qV K (nZ QM K (Gp dC)) ?_;clear K; rintro _ a w ⟨rfl, Zq⟩ K;replace M := M.call Zq; clear Zq;refine ⟨M.pick [] aC, ?_⟩;revert a;exact aZ 4 (M.pick [] aC)
theorem Gq {N : Nat} {d : List Int} {Lb : Option Addr} {Lc : Nat} {w0 : World} {r : List (List UInt8) × Int} (h : Ar N d = some r) (Ff : SL w0 (cI .i64) Lb d) (U7 : d.length ≤ Lc) :
  Calls Tryz.prog 123 #[.slice Lb d.length Lc] w0 fun e w' => ∃ v, e = .returned v ∧ ∃ A0 c0, v = .tuple #[.slice A0 r.1.length c0, I r.2] ∧ Mem w0.heap.size w0 w' [.row 9 1 A0 r.1.length c0 (cS.all r.1)] := by
 refine gE Tryz.func123 Tryz.ntmps123 ?_;intro M;unfold Ar at h;refine fN 2 ?_;intro Lf w M;obtain ⟨r2, dC, h⟩ := aB h;refine iC 8 (Dy dC ((dA Ff) _ M) U7) ?_;intro w M;refine dR 9 h ?_ ?_
 ·intro hb h;exact bU 9 (((Mem.aE 9 1 cS M)).pick [0] aC)
 intro hb h;refine aI 16 ?_;replace M := Mem.aE 3 1 (cI .i64) M;refine pT 0 0 (fun (⟨l3, i⟩ : List Int × Int) a w => ∃ (A2 : Option Addr) (c2 : Nat), Kn a 74 [(1, .pointer (some ⟨Lf, 0, none⟩)), (5, .slice A2 l3.length c2), (19, .slice Lb d.length Lc), (20, I (d.length : Int)), (21, I i)] ∧ Mem w0.heap.size w0 w [.row 3 1 A2 l3.length c2 ((cI .i64).all l3), .blk Lf 29 [.slice Lb d.length Lc]]) (M.pick [0,1] aC) ?_ ?_
 ·clear M h;rintro ⟨l6, i2⟩ a w ⟨A5, c5, K, M⟩ h;try dsimp only at h
  revert a;refine aI 6 ?_;intro a K;refine wY (vs := [.slice A5 l6.length c5, .func (.func 165) #[] #[.pointer (some ⟨Lf, 0, none⟩)]]) (cap := []) K (aA rfl) rfl rfl rfl QK rfl rfl ?_; clear K;refine gD Tryz.func164 rfl Tryz.ntmps164 rfl ?_;refine aI 5 ?_;intro a K;refine wY (vs := [.slice A5 l6.length c5, I (l6.length : Int), .func (.func 165) #[] #[.pointer (some ⟨Lf, 0, none⟩)]]) (cap := []) K (aA rfl) rfl rfl rfl QQ rfl rfl ?_; clear K;refine gD Tryz.func193 rfl Tryz.ntmps193 rfl ?_;refine aI 14 ?_;intro a K;refine BF 1 ?_;refine gS ?_;revert a;refine dR 8 h ?_ ?_
  ·intro hb h;intro a K;cases h
  intro hb h;refine aI 11 ?_;intro a K;refine wY (vs := [.slice A5 l6.length c5, I 0, I (l6.length : Int), .func (.func 165) #[] #[.pointer (some ⟨Lf, 0, none⟩)]]) (cap := []) K (aA rfl) rfl rfl rfl QR rfl rfl ?_; clear K;refine gD Tryz.func209 rfl Tryz.ntmps209 rfl ?_;obtain ⟨i3, hx, h⟩ := gY h;refine rO 4 hx ?_;refine pT 3 0 (fun (⟨l7, b, i4⟩ : List Int × Int × Int) a w => Kn a 53 [(0, .slice A5 l7.length c5), (1, I 0), (2, I b), (3, .func (.func 165) #[] #[.pointer (some ⟨Lf, 0, none⟩)]), (8, I i4)] ∧ Mem w0.heap.size w0 w [.row 3 1 A5 l7.length c5 ((cI .i64).all l7), .blk Lf 29 [.slice Lb d.length Lc]]) (M.pick [0,1] aC) ?_ ?_
  ·clear M h;rintro ⟨Od, b2, i7⟩ a w ⟨K, M⟩ h;try dsimp only at h
   revert a;refine aI 1 ?_;intro a K;refine tJ ?_;refine Cf K rfl ⟨_, rfl, ?_⟩; clear K; intro a K;obtain ⟨_, h0, h⟩ := aB h;have h0 := Fv h0;try rw [h0] at K
   try rw [h0] at M
   revert a;refine aI 3 ?_;intro a K;refine BF 1 ?_;refine gS ?_;revert a;refine dR 8 h ?_ ?_
   ·intro hb h;intro a K;cases h
   intro hb h;refine aI 4 ?_;intro a K;refine tJ ?_;refine Cf K rfl ⟨_, rfl, ?_⟩; clear K; intro a K;obtain ⟨_, h0, h⟩ := aB h;have h0 := Fv h0;try rw [h0] at K
   try rw [h0] at M
   revert a;refine aI 1 ?_;intro a K;refine tJ ?_;refine Cf K rfl ⟨_, rfl, ?_⟩; clear K; intro a K;obtain ⟨_, h0, h⟩ := aB h;have h0 := Fv h0;try rw [h0] at K
   try rw [h0] at M
   revert a;obtain ⟨x2, hx, h⟩ := gY h;refine aI 5 ?_;refine aP (fun _ K => MD hx (rS rfl Jt K rfl)) M ?_;obtain ⟨ZG, WG, h⟩ := aB h;intro a K;refine iB K (mX (C := cS) (z := ([] : List UInt8)) rfl Ev rfl z9 rfl K rfl rfl M WG) ?_;clear K M; rintro _ a w ⟨A6, c6, rfl, M⟩ K;revert a;refine pT 17 2 (fun (⟨Sh, i8, i9⟩ : List (List UInt8) × Int × Int) a w => Kn a 74 [(1, .pointer (some ⟨Lf, 0, none⟩)), (8, .slice A6 Sh.length c6), (9, I i8), (39, .slice A5 Od.length c5), (40, I (Od.length : Int)), (41, I i9)] ∧ Mem w0.heap.size w0 w [.row 9 1 A6 Sh.length c6 (cS.all Sh), .row 3 1 A5 Od.length c5 ((cI .i64).all Od), .blk Lf 29 [.slice Lb d.length Lc]]) (M.pick [0,1,2] aC) ?_ ?_
   ·clear M h;rintro ⟨ZH, w5, i11⟩ a w ⟨K, M⟩ h;try dsimp only at h
    revert a;exact bU 10 (M.pick [0] aC)
   clear M h;rintro kk fuel ⟨Sh, i8, i9⟩ a w hk4 ⟨K, M⟩ h;unfold zF at h;revert a;refine dR 6 h ?_ ?_
   ·intro hb h;obtain ⟨e33, Tq, h⟩ := aB h;refine aI 6 ?_;refine aP (fun _ K => f5 rfl eZ K rfl rfl (fV (C := (cI .i64)) 1 rfl rfl) Tq) M ?_;refine aP (fun _ K => fY rfl iN K rfl rfl (fV (C := (cI .i64)) 1 rfl rfl) Tq rfl) M ?_;refine aI 4 ?_;intro a K;refine aM (fun w => Mem _ _ w _) [0,0,0,0,0,0,0,0,0,0,0,1,0,0,0,0,0] aF aF M.drew ?_;replace M := M.drew;revert a;obtain ⟨e34, Tr, h⟩ := aB h;refine aI 3 ?_;refine fU (fun _ K => fA rfl eZ K rfl rfl ((dA Ff) _ M) Tr) ?_;refine fU (fun _ K => fY rfl iN K rfl rfl (dA Ff) Tr rfl) ?_;obtain ⟨_, h0, h⟩ := aB h;have h0 := nS h0;refine aI 1 ?_;refine fU (fun _ K => nH rfl K rfl rfl h0) ?_;obtain ⟨e35, Ts, h⟩ := aB h;refine aI 2 ?_;refine fU (fun _ K => fA rfl eZ K rfl rfl ((dA Ff) _ M) Ts) ?_;refine fU (fun _ K => fY rfl iN K rfl rfl (dA Ff) Ts rfl) ?_;obtain ⟨r7, zP, h⟩ := aB h;intro a K;refine qV K (nZ QE K (tS zP)) ?_;clear K; rintro _ a w ⟨rfl, Zq⟩ K;replace M := M.call Zq; clear Zq;refine ⟨M.pick [0,1,2] aC, ?_⟩;revert a;obtain ⟨e36, WH, h⟩ := aB h;refine aI 12 ?_;refine aP (fun _ K => f5 rfl Ev K rfl rfl (fV (C := cS) 0 rfl rfl) WH) M ?_;obtain ⟨Yf, Tt, h⟩ := aB h;intro a K;refine qG K (fO (el := r7.1) rfl sz9 rfl rfl K rfl rfl rfl 0 M rfl Tt) ?_;have M0 := M; clear K M; rintro _ a w M K;have hl := gP Tt;try rw [hl] at M
    try rw [hl] at K
    clear hl;clear M0;revert a;obtain ⟨e37, Tu, h⟩ := aB h;refine aI 6 ?_;refine aP (fun _ K => f5 rfl eZ K rfl rfl (dA Ff) Tu) M ?_;refine aP (fun _ K => fY rfl iN K rfl rfl (dA Ff) Tu rfl) M ?_;obtain ⟨_, h0, h⟩ := aB h;have h0 := nS h0;refine aI 1 ?_;refine aP (fun _ K => pY rfl K rfl rfl h0) M ?_;obtain ⟨x4, hx, h⟩ := gY h;refine rO 1 hx ?_;exact lJ 8 (Yf, x4, IntKind.i64.wrap (i9 + 1)) (M.pick [0,1,2] aC)
   intro hb h;exact lS 3 (hk4 (Sh, i8, i9)) (M.pick [0,1,2] aC)
  clear M h;rintro kk fuel ⟨l7, b, i4⟩ a w hk2 ⟨K, M⟩ h;unfold zG at h;revert a;refine dR 8 h ?_ ?_
  ·intro hb h;refine pT 11 2 (fun (⟨Ng, j4⟩ : List Int × Int) a w => Kn a 53 [(0, .slice A5 Ng.length c5), (1, I 0), (2, I b), (3, .func (.func 165) #[] #[.pointer (some ⟨Lf, 0, none⟩)]), (8, I i4), (9, I j4)] ∧ Mem w0.heap.size w0 w [.row 3 1 A5 Ng.length c5 ((cI .i64).all Ng), .blk Lf 29 [.slice Lb d.length Lc]]) (M.pick [0,1] aC) ?_ ?_
   ·clear M h;rintro ⟨Yg, j9⟩ a w ⟨K, M⟩ h;try dsimp only at h
    revert a;obtain ⟨i6, hx, h⟩ := gY h;refine rO 6 hx ?_;exact lJ 2 (Yg, b, i6) (M.pick [0,1] aC)
   clear M h;rintro kk fuel ⟨Ng, j4⟩ a w hk3 ⟨K, M⟩ h;unfold zE at h;revert a;refine aI 2 ?_;intro a K;refine aM (fun w => Mem _ _ w _) [0,0,0,0,0,0,0,0,0,0,0,0,0,0,1,0,0] aF aF M.drew ?_;replace M := M.drew;revert a;refine jL 4 21 h ?_ ?_
   ·intro hb h;obtain ⟨e20, Tv, h⟩ := aB h;refine aI 3 ?_;refine fU (fun _ K => fA rfl eZ K rfl rfl ((fV (C := (cI .i64)) 0 rfl rfl) _ M) Tv) ?_;refine fU (fun _ K => fY rfl iN K rfl rfl (fV (C := (cI .i64)) 0 rfl rfl) Tv rfl) ?_;obtain ⟨e21, Tw, h⟩ := aB h;refine aI 3 ?_;refine fU (fun _ K => fA rfl eZ K rfl rfl ((fV (C := (cI .i64)) 0 rfl rfl) _ M) Tw) ?_;refine fU (fun _ K => fY rfl iN K rfl rfl (fV (C := (cI .i64)) 0 rfl rfl) Tw rfl) ?_;obtain ⟨r5, qP, h⟩ := aB h;intro a K;refine qV K (dH (vs := [I e20, I e21]) (cap := [.pointer (some ⟨Lf, 0, none⟩)]) rfl QL K rfl rfl (IZ qP ((dA Ff) _ M) U7 (M.aK (i := 1) rfl))) ?_;clear K; rintro _ a w ⟨rfl, Zq⟩ K;replace M := M.call Zq; clear Zq;refine ⟨M.pick [0,1] aC, ?_⟩;revert a;refine dR 4 h ?_ ?_
    ·intro hb h;refine aI 4 ?_;intro a K;refine jE (fun w => Mem _ _ w _) [0,0,0,0,0,0,0,0,0,1,0,0,0,1,0,1,0,2] 18 [0,1,2,3,4,5,6,7,8,9,10,11,12,13,14,15,16,17] aF aF aF rfl (M.pick [1] aC).drew ?_;replace M := M.drew;revert a;obtain ⟨e22, Q9, h⟩ := aB h;refine aI 8 ?_;intro a K;refine eQ 8 [9,10,11,12,13,14,15,16,17] aF rfl K (aA rfl) rfl rfl (fA rfl eZ K rfl rfl ((fV (C := (cI .i64)) 0 rfl rfl) _ M) Q9) ?_; clear K; intro a K;refine eQ 10 [9,11,12,13,14,15,16,17] aF rfl K (aA rfl) rfl rfl (fM rfl K rfl) ?_; clear K; intro a K;refine eQ 11 [9,12,13,14,15,16,17] aF rfl K (aA rfl) rfl rfl (fM rfl K rfl) ?_; clear K; intro a K;obtain ⟨e23, Ra, h⟩ := aB h;refine eQ 12 [9,13,14,15,16,17] aF rfl K (aA rfl) rfl rfl (fA rfl eZ K rfl rfl ((fV (C := (cI .i64)) 0 rfl rfl) _ M) Ra) ?_; clear K; intro a K;refine d6 [9,13] aF ⟨?_, ?_, trivial⟩
     ·refine DI [13,14,15,16,17] aF rfl K (aA rfl) rfl rfl (fY rfl iN K rfl rfl (fV (C := (cI .i64)) 0 rfl rfl) Q9 rfl) M ?_; clear K; intro a K;refine ⟨fun _ => M.pick [1] aC, ?_⟩;refine d6 [13] aF ⟨?_, trivial⟩;refine DI [14,15,16,17] aF rfl K (aA rfl) rfl rfl (fY rfl iN K rfl rfl (fV (C := (cI .i64)) 0 rfl rfl) Ra rfl) M ?_; clear K; intro a K;refine ⟨fun _ => M.pick [1] aC, ?_⟩;obtain ⟨e24, WI, h⟩ := aB h;refine eQ 14 [15,16,17] aF rfl K (aA rfl) rfl rfl (fA rfl eZ K rfl rfl ((fV (C := (cI .i64)) 0 rfl rfl) _ M) WI) ?_; clear K; intro a K;refine d6 [15] aF ⟨?_, trivial⟩;obtain ⟨Yd, Tx, h⟩ := aB h;refine pC [16,17] aF rfl K (aA rfl) rfl (fO (el := e22) rfl wW rfl rfl K rfl rfl rfl 0 M rfl Tx) ?_;have M0 := M; clear K M; rintro _ a w M K;have hl := gP Tx;try rw [hl] at M
      try rw [hl] at K
      clear hl;clear M0;refine ⟨fun _ => M.pick [1] aC, ?_⟩;obtain ⟨e25, WJ, h⟩ := aB h;refine eQ 16 [17] aF rfl K (aA rfl) rfl rfl (fA rfl eZ K rfl rfl ((fV (C := (cI .i64)) 0 rfl rfl) _ M) WJ) ?_; clear K; intro a K;refine d6 [17] aF ⟨?_, trivial⟩;obtain ⟨Ye, Ty, h⟩ := aB h;refine pC [] aF rfl K (aA rfl) rfl (fO (el := e23) rfl wW rfl rfl K rfl rfl rfl 0 M rfl Ty) ?_;have M0 := M; clear K M; rintro _ a w M K;have hl := gP Ty;try rw [hl] at M
      try rw [hl] at K
      clear hl;clear M0;refine ⟨fun h => absurd h aC, ?_⟩;revert a;obtain ⟨j7, hx, h⟩ := gY h;refine rO 6 hx ?_;exact lJ 2 (Ye, j7) (M.pick [0,1] aC)
     ·refine DI [9,14,15,16,17] aF rfl K (aA rfl) rfl rfl (fY rfl iN K rfl rfl (fV (C := (cI .i64)) 0 rfl rfl) Ra rfl) M ?_; clear K; intro a K;refine ⟨fun _ => M.pick [1] aC, ?_⟩;refine d6 [9] aF ⟨?_, trivial⟩;refine DI [14,15,16,17] aF rfl K (aA rfl) rfl rfl (fY rfl iN K rfl rfl (fV (C := (cI .i64)) 0 rfl rfl) Q9 rfl) M ?_; clear K; intro a K;refine ⟨fun _ => M.pick [1] aC, ?_⟩;obtain ⟨e26, WK, h⟩ := aB h;refine eQ 14 [15,16,17] aF rfl K (aA rfl) rfl rfl (fA rfl eZ K rfl rfl ((fV (C := (cI .i64)) 0 rfl rfl) _ M) WK) ?_; clear K; intro a K;refine d6 [15] aF ⟨?_, trivial⟩;obtain ⟨l20, Tz, h⟩ := aB h;refine pC [16,17] aF rfl K (aA rfl) rfl (fO (el := e22) rfl wW rfl rfl K rfl rfl rfl 0 M rfl Tz) ?_;have M0 := M; clear K M; rintro _ a w M K;have hl := gP Tz;try rw [hl] at M
      try rw [hl] at K
      clear hl;clear M0;refine ⟨fun _ => M.pick [1] aC, ?_⟩;obtain ⟨e27, WL, h⟩ := aB h;refine eQ 16 [17] aF rfl K (aA rfl) rfl rfl (fA rfl eZ K rfl rfl ((fV (C := (cI .i64)) 0 rfl rfl) _ M) WL) ?_; clear K; intro a K;refine d6 [17] aF ⟨?_, trivial⟩;obtain ⟨l21, TA, h⟩ := aB h;refine pC [] aF rfl K (aA rfl) rfl (fO (el := e23) rfl wW rfl rfl K rfl rfl rfl 0 M rfl TA) ?_;have M0 := M; clear K M; rintro _ a w M K;have hl := gP TA;try rw [hl] at M
      try rw [hl] at K
      clear hl;clear M0;refine ⟨fun h => absurd h aC, ?_⟩;revert a;obtain ⟨j8, hx, h⟩ := gY h;refine rO 6 hx ?_;exact lJ 2 (l21, j8) (M.pick [0,1] aC)
    intro hb h;exact lS 3 (hk3 (Ng, j4)) (M.pick [0,1] aC)
   intro hb h;refine aI 10 ?_;intro a K;refine nP K (K.no rfl rfl rfl rfl) rfl rfl (M.pick [0,1] aC) ?_; clear K; intro a K;revert a;exact lS 8 (hk3 (Ng, j4)) (M.pick [0,1] aC)
  intro hb h;exact lS 3 (hk2 (l7, b, i4)) (M.pick [0,1] aC)
 clear M h;rintro kk fuel ⟨l3, i⟩ a w hk1 ⟨A2, c2, K, M⟩ h;unfold t6 at h;revert a;refine dR 6 h ?_ ?_
 ·intro hb h;obtain ⟨e3, lH, h⟩ := aB h;refine aI 7 ?_;refine aP (fun _ K => f5 rfl eZ K rfl rfl (dA Ff) lH) M ?_;refine aP (fun _ K => fY rfl iN K rfl rfl (dA Ff) lH rfl) M ?_;refine dR 10 h ?_ ?_
  ·intro hb h;refine aI 3 ?_;intro a K;refine iB K (a8 rfl eZ z3 K (vs := [(0, I i)]) (cs := [I i]) rfl aF rfl rfl M) ?_;have M0 := M; clear K M; rintro _ a w ⟨SO, rfl, M⟩ K;replace M := M.iF 0 rfl (cI .i64) ([i] : List Int) (n := 1) rfl rfl rfl;clear M0;obtain ⟨l5, uZ, h⟩ := aB h;refine iB K (jK (C := (cI .i64)) (xs := l3) (ys := ([i] : List Int)) rfl eZ rfl z3 rfl rfl K rfl rfl 1 M rfl ((fV (C := (cI .i64)) 0 rfl rfl) _ M) uZ) ?_;clear K M; rintro _ a w ⟨A4, c4, rfl, M⟩ K;revert a;exact lJ 9 (l5, IntKind.i64.wrap (i + 1)) (M.pick [1,2] aC)
  intro hb h;exact lJ 8 (l3, IntKind.i64.wrap (i + 1)) (M.pick [0,1] aC)
 intro hb h;exact lS 3 (hk1 (l3, i)) (M.pick [0,1] aC)
theorem Mb {N : Nat} {d : List Int} {Lb : Option Addr} {Lc : Nat} {o : List UInt8} {p2 : Int} {w0 : World} {r : List Int × List UInt8 × Int} (h : Ep N d o p2 = some r) (Ff : SL w0 (cI .i64) Lb d) (U7 : d.length ≤ Lc) :
  Calls Tryz.prog 197 #[.slice Lb d.length Lc, .string (bs o), I p2] w0 fun e w' => ∃ v, e = .returned v ∧ ∃ A0 c0, v = .tuple #[.slice A0 r.1.length c0, .string (bs r.2.1), I r.2.2] ∧ Mem w0.heap.size w0 w' [.row 3 1 A0 r.1.length c0 ((cI .i64).all r.1)] := by
 refine gE Tryz.func197 Tryz.ntmps197 ?_;intro M;unfold Ep at h;obtain ⟨r2, dC, h⟩ := aB h;refine iC 10 (Gq dC ((dA Ff) _ M) U7) ?_;intro A c w M;refine dR 14 h ?_ ?_
 ·intro hb h;exact ES 10 (((Mem.aE 3 1 (cI .i64) M)).pick [0] aC)
 intro hb h;refine jL 8 29 h ?_ ?_
 ·intro hb h;exact ES 15 (((Mem.aE 3 1 (cI .i64) M)).pick [0] aC)
 intro hb h;refine dR 5 h ?_ ?_
 ·intro hb h;exact ES 9 (((Mem.aE 3 1 (cI .i64) M)).pick [0] aC)
 intro hb h;obtain ⟨r3, iJ, h⟩ := aB h;refine iC 6 (Gn iJ) ?_;intro w M;refine dR 13 h ?_ ?_
 ·intro hb h;exact ES 9 (((Mem.aE 3 1 (cI .i64) M)).pick [0] aC)
 intro hb h;refine aI 5 ?_;intro a K;refine wY (vs := [.slice A r2.1.length c]) (cap := []) K (aA rfl) rfl rfl rfl QS rfl rfl ?_; clear K;refine gD Tryz.func220 rfl Tryz.ntmps220 rfl ?_;refine aI 7 ?_;intro a K;refine iB K (Nw rfl 9 3 M) ?_;clear K M; rintro _ a w ⟨gm, rfl, M⟩ K;revert a;refine pT 12 0 (fun (⟨m, i⟩ : List (List UInt8 × Int) × Int) a w => Kn a 44 [(3, .map (some gm)), (10, .slice A r2.1.length c), (11, I (r2.1.length : Int)), (12, I i)] ∧ Mem w0.heap.size w0 w [.Lz Tryz.prog 9 3 gm m, .row 9 1 A r2.1.length c (cS.all r2.1)]) (M.pick [0,1] aC) ?_ ?_
 ·clear M h;rintro ⟨m10, i5⟩ a w ⟨K, M⟩ h;try dsimp only at h
  revert a;refine aI 9 ?_;intro a K;refine oJ K rfl (cQ K rfl) ⟨_, rfl, ?_⟩; clear K; intro a K;revert a;refine aI 10 ?_;replace M := Mem.aE 3 1 (cI .i64) M;refine pT 0 0 (fun (⟨l3, o2⟩ : List Int × List UInt8) a w => ∃ (A3 : Option Addr) (c3 : Nat), Kn a 79 [(1, .string (bs o2)), (2, I p2), (13, .map (some gm)), (14, .slice A3 l3.length c3)] ∧ Mem w0.heap.size w0 w [.row 3 1 A3 l3.length c3 ((cI .i64).all l3), .Lz Tryz.prog 9 3 gm m10]) (M.pick [0,1] aC) ?_ ?_
  ·clear M h;rintro ⟨l6, o3⟩ a w ⟨A6, c6, K, M⟩ h;try dsimp only at h
   revert a;exact ES 12 (M.pick [0] aC)
  clear M h;rintro kk fuel ⟨l3, o2⟩ a w hk3 ⟨A3, c3, K, M⟩ h;unfold Bt at h;revert a;refine dR 9 h ?_ ?_
  ·intro hb h;refine pT 11 2 (fun (⟨w5, i11⟩ : Int × Int) a w => Kn a 79 [(1, .string (bs o2)), (2, I p2), (13, .map (some gm)), (14, .slice A3 l3.length c3), (15, I w5), (16, I i11)] ∧ Mem w0.heap.size w0 w [.row 3 1 A3 l3.length c3 ((cI .i64).all l3), .Lz Tryz.prog 9 3 gm m10]) (M.pick [0,1] aC) ?_ ?_
   ·clear M h;rintro ⟨i12, Hg⟩ a w ⟨K, M⟩ h;try dsimp only at h
    revert a;refine aI 6 ?_;intro a K;refine iB K (a8 rfl eZ z3 K (vs := [(0, I Hg)]) (cs := [I Hg]) rfl aF rfl rfl M) ?_;have M0 := M; clear K M; rintro _ a w ⟨SO, rfl, M⟩ K;replace M := M.iF 0 rfl (cI .i64) ([Hg] : List Int) (n := 1) rfl rfl rfl;clear M0;obtain ⟨l5, uZ, h⟩ := aB h;refine iB K (jK (C := (cI .i64)) (xs := l3) (ys := ([Hg] : List Int)) rfl eZ rfl z3 rfl rfl K rfl rfl 1 M rfl ((fV (C := (cI .i64)) 0 rfl rfl) _ M) uZ) ?_;clear K M; rintro _ a w ⟨A5, c5, rfl, M⟩ K;revert a;obtain ⟨s13, WM, h⟩ := aB h;refine aI 6 ?_;refine aP (fun _ K => hT (k := .i64) (k' := .i64) rfl nY K rfl rfl rfl WM) M ?_;exact lJ 4 (l5, s13) (M.pick [1,2] aC)
   clear M h;rintro kk fuel ⟨w5, i11⟩ a w hk4 ⟨K, M⟩ h;unfold vV at h;revert a;refine dR 7 h ?_ ?_
   ·intro hb h;obtain ⟨s12, Mc, h⟩ := aB h;refine aI 8 ?_;refine aP (fun _ K => hT (k := .i64) (k' := .i64) rfl nY K rfl rfl rfl Mc) M ?_;obtain ⟨q7, SP, h⟩ := aB h;refine aP (fun _ K => Ou rfl OE nY Wh ZN K rfl rfl (ZM 1 rfl) SP) M ?_;refine dR 15 h ?_ ?_
    ·intro hb h;exact ES 17 (((Mem.aE 3 1 (cI .i64) M)).pick [0] aC)
    intro hb h;refine dR 7 h ?_ ?_
    ·intro hb h;exact lJ 7 (w5, q7.1) (M.pick [0,1] aC)
    intro hb h;refine aI 4 ?_;refine aP (fun _ K => gT rfl nY K rfl) M ?_;refine dR 4 h ?_ ?_
    ·intro hb h;exact ES 17 (((Mem.aE 3 1 (cI .i64) M)).pick [0] aC)
    intro hb h;obtain ⟨x5, hx, h⟩ := gY h;refine rO 3 hx ?_;exact lJ 4 (x5, i11) (M.pick [0,1] aC)
   intro hb h;exact lS 3 (hk4 (w5, i11)) (M.pick [0,1] aC)
  intro hb h;exact lS 3 (hk3 (l3, o2)) (M.pick [0,1] aC)
 clear M h;rintro kk fuel ⟨m, i⟩ a w hk1 ⟨K, M⟩ h;unfold vW at h;revert a;refine dR 6 h ?_ ?_
 ·intro hb h;obtain ⟨e2, kA, h⟩ := aB h;refine aI 7 ?_;refine aP (fun _ K => f5 rfl Ev K rfl rfl (fV (C := cS) 1 rfl rfl) kA) M ?_;refine aP (fun _ K => fY rfl ML K rfl rfl (fV (C := cS) 1 rfl rfl) kA rfl) M ?_;refine aI 8 ?_;refine aP (fun _ K => gT rfl nY K rfl) M ?_;refine pT 4 2 (fun (⟨m5, i3⟩ : List (List UInt8 × Int) × Int) a w => Kn a 44 [(3, .map (some gm)), (10, .slice A r2.1.length c), (11, I (r2.1.length : Int)), (12, I i), (4, I i), (5, .string (bs e2)), (18, I (e2.length : Int)), (19, I i3)] ∧ Mem w0.heap.size w0 w [.Lz Tryz.prog 9 3 gm m5, .row 9 1 A r2.1.length c (cS.all r2.1)]) (M.pick [0,1] aC) ?_ ?_
  ·clear M h;rintro ⟨m8, i4⟩ a w ⟨K, M⟩ h;try dsimp only at h
   revert a;refine aI 5 ?_;refine aP (fun _ K => EL rfl K rfl rfl) M ?_;refine dR 2 h ?_ ?_
   ·intro hb h;obtain ⟨m9, Y8, h⟩ := aB h;refine aI 4 ?_;intro a K;refine qG K (Kf rfl OE nY Wh K rfl rfl rfl 0 M rfl Y8) ?_;clear K M; rintro _ a w M K;revert a;exact lJ 8 (m9, IntKind.i64.wrap (i + 1)) (M.pick [0,1] aC)
   intro hb h;exact lJ 8 (m8, IntKind.i64.wrap (i + 1)) (M.pick [0,1] aC)
  clear M h;rintro kk fuel ⟨m5, i3⟩ a w hk2 ⟨K, M⟩ h;unfold vU at h;revert a;refine dR 6 h ?_ ?_
  ·intro hb h;obtain ⟨s5, NK, h⟩ := aB h;refine aI 15 ?_;refine aP (fun _ K => hT (k := .i64) (k' := .i64) rfl nY K rfl rfl rfl NK) M ?_;obtain ⟨q3, SQ, h⟩ := aB h;refine aP (fun _ K => Ou rfl OE nY Wh ZN K rfl rfl (ZM 0 rfl) SQ) M ?_;refine dR 13 h ?_ ?_
   ·intro hb h;obtain ⟨s6, NL, h⟩ := aB h;refine aI 4 ?_;refine aP (fun _ K => hT (k := .i64) (k' := .i64) rfl nY K rfl rfl rfl NL) M ?_;obtain ⟨m7, Y9, h⟩ := aB h;intro a K;refine qG K (Kf rfl OE nY Wh K rfl rfl rfl 0 M rfl Y9) ?_;clear K M; rintro _ a w M K;revert a;exact lJ 8 (m7, IntKind.i64.wrap (i3 + 1)) (M.pick [0,1] aC)
   intro hb h;exact lJ 8 (m5, IntKind.i64.wrap (i3 + 1)) (M.pick [0,1] aC)
  intro hb h;exact lS 3 (hk2 (m5, i3)) (M.pick [0,1] aC)
 intro hb h;exact lS 3 (hk1 (m, i)) (M.pick [0,1] aC)
theorem Gr {N : Nat} {x2 : Int} {w0 : World} {r : Int} (h : vT N x2 = some r) :
  Calls Tryz.prog 168 #[.int .u64 x2] w0 fun e w' => ∃ v, e = .returned v ∧ v = I r ∧ Mem w0.heap.size w0 w' [] := by
 refine gE Tryz.func168 Tryz.ntmps168 ?_;intro M;unfold vT at h;refine dR 12 h ?_ ?_
 ·intro hb h;refine aI 3 ?_;refine aP (fun _ K => nH rfl K rfl rfl aC) M ?_;obtain ⟨x3, hx, h⟩ := gY h;refine rO 0 hx ?_;refine dR 13 h ?_ ?_
  ·intro hb h;refine aI 3 ?_;refine aP (fun _ K => nH rfl K rfl rfl aC) M ?_;obtain ⟨x4, hx, h⟩ := gY h;refine rO 0 hx ?_;obtain ⟨n, hx, h⟩ := gY h;refine rO 5 hx ?_;refine dR 9 h ?_ ?_
   ·intro hb h;refine aI 3 ?_;refine aP (fun _ K => nH rfl K rfl rfl aC) M ?_;obtain ⟨x5, hx, h⟩ := gY h;refine rO 0 hx ?_;obtain ⟨n2, hx, h⟩ := gY h;refine rO 5 hx ?_;obtain ⟨b, Za, h⟩ := aB h;refine aI 7 ?_;refine aP (fun _ K => oX rfl nY K rfl rfl Za) M ?_;obtain ⟨n3, hx, h⟩ := gY h;refine rO 2 hx ?_;exact aZ 3 (M.pick [] aC)
   intro hb h;obtain ⟨b2, Q6, h⟩ := aB h;refine aI 7 ?_;refine aP (fun _ K => oX rfl nY K rfl rfl Q6) M ?_;obtain ⟨n4, hx, h⟩ := gY h;refine rO 2 hx ?_;exact aZ 3 (M.pick [] aC)
  intro hb h;refine dR 9 h ?_ ?_
  ·intro hb h;refine aI 3 ?_;refine aP (fun _ K => nH rfl K rfl rfl aC) M ?_;obtain ⟨x6, hx, h⟩ := gY h;refine rO 0 hx ?_;obtain ⟨n5, hx, h⟩ := gY h;refine rO 5 hx ?_;obtain ⟨b3, Ld, h⟩ := aB h;refine aI 7 ?_;refine aP (fun _ K => oX rfl nY K rfl rfl Ld) M ?_;obtain ⟨n6, hx, h⟩ := gY h;refine rO 2 hx ?_;exact aZ 3 (M.pick [] aC)
  intro hb h;obtain ⟨b4, U8, h⟩ := aB h;refine aI 7 ?_;refine aP (fun _ K => oX rfl nY K rfl rfl U8) M ?_;obtain ⟨n7, hx, h⟩ := gY h;refine rO 2 hx ?_;exact aZ 3 (M.pick [] aC)
 intro hb h;refine dR 9 h ?_ ?_
 ·intro hb h;refine aI 3 ?_;refine aP (fun _ K => nH rfl K rfl rfl aC) M ?_;obtain ⟨x7, hx, h⟩ := gY h;refine rO 0 hx ?_;obtain ⟨n8, hx, h⟩ := gY h;refine rO 5 hx ?_;refine dR 9 h ?_ ?_
  ·intro hb h;refine aI 3 ?_;refine aP (fun _ K => nH rfl K rfl rfl aC) M ?_;obtain ⟨x8, hx, h⟩ := gY h;refine rO 0 hx ?_;obtain ⟨n9, hx, h⟩ := gY h;refine rO 5 hx ?_;obtain ⟨b5, Zb, h⟩ := aB h;refine aI 7 ?_;refine aP (fun _ K => oX rfl nY K rfl rfl Zb) M ?_;obtain ⟨n10, hx, h⟩ := gY h;refine rO 2 hx ?_;exact aZ 3 (M.pick [] aC)
  intro hb h;obtain ⟨b6, U9, h⟩ := aB h;refine aI 7 ?_;refine aP (fun _ K => oX rfl nY K rfl rfl U9) M ?_;obtain ⟨n11, hx, h⟩ := gY h;refine rO 2 hx ?_;exact aZ 3 (M.pick [] aC)
 intro hb h;refine dR 9 h ?_ ?_
 ·intro hb h;refine aI 3 ?_;refine aP (fun _ K => nH rfl K rfl rfl aC) M ?_;obtain ⟨x9, hx, h⟩ := gY h;refine rO 0 hx ?_;obtain ⟨n12, hx, h⟩ := gY h;refine rO 5 hx ?_;obtain ⟨b7, NM, h⟩ := aB h;refine aI 7 ?_;refine aP (fun _ K => oX rfl nY K rfl rfl NM) M ?_;obtain ⟨n13, hx, h⟩ := gY h;refine rO 2 hx ?_;exact aZ 3 (M.pick [] aC)
 intro hb h;obtain ⟨b8, NN, h⟩ := aB h;refine aI 7 ?_;refine aP (fun _ K => oX rfl nY K rfl rfl NN) M ?_;obtain ⟨n14, hx, h⟩ := gY h;refine rO 2 hx ?_;exact aZ 3 (M.pick [] aC)
theorem DM {N : Nat} {x2 : Int} {w0 : World} {r : Int} (h : t7 N x2 = some r) :
  Calls Tryz.prog 125 #[.int .u64 x2] w0 fun e w' => ∃ v, e = .returned v ∧ v = I r ∧ Mem w0.heap.size w0 w' [] := by
 refine gE Tryz.func125 Tryz.ntmps125 ?_;intro M;unfold t7 at h;obtain ⟨r2, dC, h⟩ := aB h;refine iC 12 (Gr dC) ?_;intro w M;exact aZ 4 (M.pick [] aC)
end
section
open Go.RowKit Go.Shelf
theorem FO (N : Nat) (s substr : List UInt8) (w0 : World) (r : Bool) (h : uA N s substr = some r) :
  Calls Tryz.prog 180 #[.string (bs s), .string (bs substr)] w0 fun e w' => ∃ v, e = .returned v ∧ v = .bool r ∧ Mem w0.heap.size w0 w' [] := by
 unfold uA at h
 split at h
 ·rename_i c
  cases h;refine (Any.strings_Contains_one SK (bs s) c w0).mono ?_;rintro e w' ⟨rfl, rfl⟩;exact ⟨_, rfl, rfl, Mem.start w'⟩
 ·cases h
end
section
open Go.RowKit
theorem Md {N : Nat} {iR kL : Int} {gL : List Int} {fC : Option Addr} {fD : Nat} {w0 : World} {r : Bool} (h : Eo N iR kL gL = some r) (k6 : SL w0 (cI .i64) fC gL) (qI : gL.length ≤ fD) :
  Calls Tryz.prog 122 #[.agg #[I iR, I kL, .slice fC gL.length fD]] w0 fun e w' => ∃ v, e = .returned v ∧ v = .bool r ∧ Mem w0.heap.size w0 w' [] := by
 refine gE Tryz.func122 Tryz.ntmps122 ?_;intro M;unfold Eo at h;refine fN 2 ?_;intro w7 w M;refine jL 10 8 h ?_ ?_
 ·intro hb h;exact aZ 35 (M.pick [] aC)
 intro hb h;refine jL 5 13 h ?_ ?_
 ·intro hb h;exact aZ 30 (M.pick [] aC)
 intro hb h;refine jL 5 18 h ?_ ?_
 ·intro hb h;exact aZ 25 (M.pick [] aC)
 intro hb h;refine jL 5 23 h ?_ ?_
 ·intro hb h;exact aZ 20 (M.pick [] aC)
 intro hb h;refine dR 12 h ?_ ?_
 ·intro hb h;exact aZ 7 (M.pick [] aC)
 intro hb h;refine pT 12 0 (fun (i : Int) a w => Kn a 48 [(35, .slice fC gL.length fD), (36, I (gL.length : Int)), (37, I i)] ∧ Mem w0.heap.size w0 w []) M.nQ ?_ ?_
 ·clear M h;rintro i2 a w ⟨K, M⟩ h;try dsimp only at h
  revert a;exact aZ 8 (M.pick [] aC)
 clear M h;rintro kk fuel i a w hk1 ⟨K, M⟩ h;unfold Br at h;revert a;refine dR 6 h ?_ ?_
 ·intro hb h;obtain ⟨e2, kA, h⟩ := aB h;refine aI 6 ?_;refine aP (fun _ K => f5 rfl eZ K rfl rfl (dA k6) kA) M ?_;refine aP (fun _ K => fY rfl iN K rfl rfl (dA k6) kA rfl) M ?_;refine jL 8 43 h ?_ ?_
  ·intro hb h;exact aZ 17 (M.pick [] aC)
  intro hb h;refine dR 5 h ?_ ?_
  ·intro hb h;exact aZ 11 (M.pick [] aC)
  intro hb h;exact lJ 8 (IntKind.i64.wrap (i + 1)) M.nQ
 intro hb h;exact lS 3 (hk1 i) M.nQ
theorem v7 {N : Nat} {iD lI : Int} {jO : List Int} {jG : Option Addr} {jH : Nat} {o p2 : Int} {w0 : World} {r : Int} (h : qM N iD lI jO o p2 = some r) (lA : SL w0 (cI .i64) jG jO) (Ca : jO.length ≤ jH) :
  Calls Tryz.prog 124 #[.agg #[I iD, I lI, .slice jG jO.length jH], I o, I p2] w0 fun e w' => ∃ v, e = .returned v ∧ v = I r ∧ Mem w0.heap.size w0 w' [] := by
 refine gE Tryz.func124 Tryz.ntmps124 ?_;intro M;unfold qM at h;refine fN 2 ?_;intro cM w M;refine Pg 4 ?_;replace M := M.drew;obtain ⟨_, h0, h⟩ := aB h;have h0 := dV h0;refine aI 3 ?_;refine fU (fun _ K => oI rfl K rfl rfl h0) ?_;obtain ⟨_, h0, h⟩ := aB h;have h0 := dV h0;refine aI 3 ?_;refine fU (fun _ K => iS rfl K rfl rfl h0) ?_;refine dR 13 h ?_ ?_
 ·intro hb h;exact aZ 8 (M.pick [] aC)
 intro hb h;refine dR 7 h ?_ ?_
 ·intro hb h;obtain ⟨e, Ii, h⟩ := aB h;refine aI 6 ?_;refine aP (fun _ K => f5 rfl eZ K rfl rfl (dA lA) Ii) M ?_;refine aP (fun _ K => fY rfl iN K rfl rfl (dA lA) Ii rfl) M ?_;exact aZ 6 (M.pick [] aC)
 intro hb h;refine dR 7 h ?_ ?_
 ·intro hb h;obtain ⟨e2, kA, h⟩ := aB h;refine aI 8 ?_;refine aP (fun _ K => f5 rfl eZ K rfl rfl (dA lA) kA) M ?_;refine aP (fun _ K => fY rfl iN K rfl rfl (dA lA) kA rfl) M ?_;exact aZ 6 (M.pick [] aC)
 intro hb h;refine Pg 4 ?_;replace M := M.drew;obtain ⟨e3, lH, h⟩ := aB h;refine aI 4 ?_;refine fU (fun _ K => fA rfl eZ K rfl rfl ((dA lA) _ M) lH) ?_;refine fU (fun _ K => fY rfl iN K rfl rfl (dA lA) lH rfl) ?_;obtain ⟨e4, pQ, h⟩ := aB h;refine aI 6 ?_;refine fU (fun _ K => fA rfl eZ K rfl rfl ((dA lA) _ M) pQ) ?_;refine fU (fun _ K => fY rfl iN K rfl rfl (dA lA) pQ rfl) ?_;obtain ⟨e5, Jw, h⟩ := aB h;refine aI 7 ?_;refine fU (fun _ K => fA rfl eZ K rfl rfl ((dA lA) _ M) Jw) ?_;refine fU (fun _ K => fY rfl iN K rfl rfl (dA lA) Jw rfl) ?_;refine aI 19 ?_;refine aP (fun _ K => nH rfl K rfl rfl aC) M ?_;refine aI 5 ?_;refine aP (fun _ K => nH rfl K rfl rfl aC) M ?_;refine aI 4 ?_;refine aP (fun _ K => nH rfl K rfl rfl aC) M ?_;refine aP (fun _ K => aO rfl K (vs := [(0, I 0), (1, I e3), (2, I e4), (3, I e5), (4, I (IntKind.i64.wrap ((IntKind.i64.wrap (e3 + e4)) - e5))), (5, I (IntKind.i64.wrap (e3 + (iZ .i64 (IntKind.i64.wrap (e4 - e5)) 1)))), (6, I (IntKind.i64.wrap (e4 + (iZ .i64 (IntKind.i64.wrap (e3 - e5)) 1)))), (7, I (iZ .i64 (IntKind.i64.wrap (e3 + e4)) 1))]) (cs := [I 0, I e3, I e4, I e5, I (IntKind.i64.wrap ((IntKind.i64.wrap (e3 + e4)) - e5)), I (IntKind.i64.wrap (e3 + (iZ .i64 (IntKind.i64.wrap (e4 - e5)) 1))), I (IntKind.i64.wrap (e4 + (iZ .i64 (IntKind.i64.wrap (e3 - e5)) 1))), I (iZ .i64 (IntKind.i64.wrap (e3 + e4)) 1)]) rfl aF) M ?_;obtain ⟨e6, ET, h⟩ := aB h;refine aI 1 ?_;refine aP (fun _ K => Fy (C := (cI .i64)) (es := [0, e3, e4, e5, IntKind.i64.wrap ((IntKind.i64.wrap (e3 + e4)) - e5), IntKind.i64.wrap (e3 + (iZ .i64 (IntKind.i64.wrap (e4 - e5)) 1)), IntKind.i64.wrap (e4 + (iZ .i64 (IntKind.i64.wrap (e3 - e5)) 1)), iZ .i64 (IntKind.i64.wrap (e3 + e4)) 1]) rfl Wp iN K rfl rfl rfl ET rfl) M ?_;exact aZ 4 (M.pick [] aC)
theorem Lg {N : Nat} {iD lI : Int} {jO : List Int} {jG : Option Addr} {jH : Nat} {o : Int} {p2 : List Int} {WN : Option Addr} {WO : Nat} {w0 : World} {r : List UInt8 × Int} (h : Dp N iD lI jO o p2 = some r) (lA : SL w0 (cI .i64) jG jO) (Ca : jO.length ≤ jH) (Zc : SL w0 (cI .i64) WN p2) (Zd : p2.length ≤ WO) :
  Calls Tryz.prog 53 #[.agg #[I iD, I lI, .slice jG jO.length jH], I o, .slice WN p2.length WO] w0 fun e w' => ∃ v, e = .returned v ∧ v = .tuple #[.string (bs r.1), I r.2] ∧ Mem w0.heap.size w0 w' [] := by
 refine gE Tryz.func53 Tryz.ntmps53 ?_;intro M;unfold Dp at h;refine fN 2 ?_;intro cM w M;obtain ⟨r2, dC, h⟩ := aB h;refine iC 8 (Md dC ((dA lA) _ M) Ca) ?_;intro w M;refine dR 3 h ?_ ?_
 ·intro hb h;exact bU 8 (M.pick [] aC)
 intro hb h;refine jL 8 24 h ?_ ?_
 ·intro hb h;exact bU 14 (M.pick [] aC)
 intro hb h;refine dR 5 h ?_ ?_
 ·intro hb h;exact bU 8 (M.pick [] aC)
 intro hb h;obtain ⟨r3, iJ, h⟩ := aB h;refine iC 5 (Gq iJ ((dA Zc) _ M) Zd) ?_;intro A c w M;refine dR 14 h ?_ ?_
 ·intro hb h;exact bU 9 (M.pick [] aC)
 intro hb h;refine aI 4 ?_;intro a K;refine iB K (eK rfl (show iA Tryz.prog 148 = some [.pointer none, .slice none 0 0] by kernel_rfl) M) ?_;have M0 := M; clear K M; rintro _ a w ⟨a7, rfl, M⟩ K;replace M := Mem.Qp 5 M;clear M0;revert a;refine pT 12 0 (fun (⟨l2, i⟩ : List UInt8 × Int) a w => ∃ (A2 : Option Addr) (c2 : Nat), Kn a 106 [(1, I o), (3, .pointer (some ⟨cM, 0, none⟩)), (8, .slice A r3.1.length c), (10, .pointer (some ⟨a7, 0, none⟩)), (37, .slice jG jO.length jH), (38, I (jO.length : Int)), (39, I i)] ∧ Mem w0.heap.size w0 w [.row 5 1 A2 l2.length c2 ((cI .u8).all (lL l2)), .Cd a7 148 A2 l2.length c2, .row 9 1 A r3.1.length c (cS.all r3.1), .blk cM 31 [I iD, I lI, .slice jG jO.length jH]]) (M.pick [0,1,2,3] aC) ?_ ?_
 ·clear M h;rintro ⟨l3, i2⟩ a w ⟨RW, c15, K, M⟩ h;try dsimp only at h
  revert a;refine aI 4 ?_;intro a K;refine iB K (dH (vs := [.pointer (some ⟨a7, 0, none⟩)]) (cap := []) rfl L0 K rfl rfl (Av (show Mem _ _ _ [.Cd a7 148 RW l3.length c15, .row 5 1 RW l3.length c15 ((cI .u8).all (lL l3)), .row 9 1 A r3.1.length c (cS.all r3.1), .blk cM 31 [I iD, I lI, .slice jG jO.length jH]] from M.pick [1,0,2,3] aC))) ?_;clear K M; rintro _ a w ⟨rfl, M⟩ K;obtain ⟨Dk, Gs, h⟩ := aB h;revert a;refine iC 0 (Gn Gs) ?_;intro w M;exact bU 15 (M.pick [] aC)
 clear M h;rintro kk fuel ⟨l2, i⟩ a w hk1 ⟨A2, c2, K, M⟩ h;unfold j6 at h;revert a;refine dR 6 h ?_ ?_
 ·intro hb h;obtain ⟨e6, ET, h⟩ := aB h;refine aI 7 ?_;refine aP (fun _ K => f5 rfl eZ K rfl rfl (dA lA) ET) M ?_;refine aP (fun _ K => fY rfl iN K rfl rfl (dA lA) ET rfl) M ?_;obtain ⟨wZ, BL, h⟩ := aB h;refine iC 10 (v7 BL ((dA lA) _ M) Ca) ?_;intro w M;obtain ⟨x6, hx, h⟩ := gY h;refine rO 3 hx ?_;refine dR 9 h ?_ ?_
  ·intro hb h;obtain ⟨x7, hx, h⟩ := gY h;refine rO 3 hx ?_;refine aI 6 ?_;refine aP (fun _ K => PU rfl K rfl) M ?_;obtain ⟨rN, BM, h⟩ := aB h;refine iC 2 (DM BM) ?_;intro w M;refine jL 11 66 h ?_ ?_
   ·intro hb h;exact bU 22 (M.pick [] aC)
   intro hb h;obtain ⟨e7, rD, h⟩ := aB h;refine aI 2 ?_;refine aP (fun _ K => f5 rfl Ev K rfl rfl (fV (C := cS) 2 rfl rfl) rD) M ?_;refine aP (fun _ K => fY rfl ML K rfl rfl (fV (C := cS) 2 rfl rfl) rD rfl) M ?_;refine aP (fun _ K => t8 rfl K rfl rfl) M ?_;refine dR 3 h ?_ ?_
   ·intro hb h;exact bU 13 (M.pick [] aC)
   intro hb h;obtain ⟨e8, vG, h⟩ := aB h;refine aI 6 ?_;refine aP (fun _ K => f5 rfl Ev K rfl rfl (fV (C := cS) 2 rfl rfl) vG) M ?_;refine aP (fun _ K => fY rfl ML K rfl rfl (fV (C := cS) 2 rfl rfl) vG rfl) M ?_;obtain ⟨b7, NM, h⟩ := aB h;intro a K;refine iB K (dH (vs := [.pointer (some ⟨a7, 0, none⟩), .string (bs e8)]) (cap := []) rfl Fc K rfl rfl (pD (show Mem _ _ _ [.Cd a7 148 A2 l2.length c2, .row 5 1 A2 l2.length c2 ((cI .u8).all (lL l2)), .row 9 1 A r3.1.length c (cS.all r3.1), .blk cM 31 [I iD, I lI, .slice jG jO.length jH]] from M.pick [1,0,2,3] aC) NM)) ?_;clear K M; rintro _ a w ⟨A9, c9, M⟩ K;revert a;refine jL 7 80 h ?_ ?_
   ·intro hb h;refine dR 5 h ?_ ?_
    ·intro hb h;refine dR 7 h ?_ ?_
     ·intro hb h;obtain ⟨_, h0, h⟩ := aB h;have h0 := nS h0;refine aI 3 ?_;refine aP (fun _ K => pY rfl K rfl rfl h0) M ?_;obtain ⟨x8, hx, h⟩ := gY h;refine rO 2 hx ?_;obtain ⟨BX, BN, h⟩ := aB h;refine iC 6 (tS BN) ?_;intro w M;obtain ⟨b8, NN, h⟩ := aB h;refine aI 9 ?_;intro a K;refine iB K (dH (vs := [.pointer (some ⟨a7, 0, none⟩), .string (bs BX.1)]) (cap := []) rfl Fc K rfl rfl (pD (show Mem _ _ _ [.Cd a7 148 A9 b7.length c9, .row 5 1 A9 b7.length c9 ((cI .u8).all (lL b7)), .row 9 1 A r3.1.length c (cS.all r3.1), .blk cM 31 [I iD, I lI, .slice jG jO.length jH]] from M.pick [0,1,2,3] aC) NN)) ?_;clear K M; rintro _ a w ⟨MM, c10, M⟩ K;revert a;exact lJ 8 (b8, IntKind.i64.wrap (i + 1)) (M.pick [1,0,2,3] aC)
     intro hb h;obtain ⟨D5, CX, h⟩ := aB h;refine iC 6 (tS CX) ?_;intro w M;obtain ⟨b9, Va, h⟩ := aB h;refine aI 9 ?_;intro a K;refine iB K (dH (vs := [.pointer (some ⟨a7, 0, none⟩), .string (bs D5.1)]) (cap := []) rfl Fc K rfl rfl (pD (show Mem _ _ _ [.Cd a7 148 A9 b7.length c9, .row 5 1 A9 b7.length c9 ((cI .u8).all (lL b7)), .row 9 1 A r3.1.length c (cS.all r3.1), .blk cM 31 [I iD, I lI, .slice jG jO.length jH]] from M.pick [0,1,2,3] aC) Va)) ?_;clear K M; rintro _ a w ⟨RT, c11, M⟩ K;revert a;exact lJ 8 (b9, IntKind.i64.wrap (i + 1)) (M.pick [1,0,2,3] aC)
    intro hb h;exact lJ 8 (b7, IntKind.i64.wrap (i + 1)) (M.pick [1,0,2,3] aC)
   intro hb h;exact lJ 14 (b7, IntKind.i64.wrap (i + 1)) (M.pick [1,0,2,3] aC)
  intro hb h;refine aI 6 ?_;refine aP (fun _ K => PU rfl K rfl) M ?_;obtain ⟨Em, CY, h⟩ := aB h;refine iC 2 (DM CY) ?_;intro w M;refine jL 11 66 h ?_ ?_
  ·intro hb h;exact bU 22 (M.pick [] aC)
  intro hb h;obtain ⟨e9, Jy, h⟩ := aB h;refine aI 2 ?_;refine aP (fun _ K => f5 rfl Ev K rfl rfl (fV (C := cS) 2 rfl rfl) Jy) M ?_;refine aP (fun _ K => fY rfl ML K rfl rfl (fV (C := cS) 2 rfl rfl) Jy rfl) M ?_;refine aP (fun _ K => t8 rfl K rfl rfl) M ?_;refine dR 3 h ?_ ?_
  ·intro hb h;exact bU 13 (M.pick [] aC)
  intro hb h;obtain ⟨e10, Gt, h⟩ := aB h;refine aI 6 ?_;refine aP (fun _ K => f5 rfl Ev K rfl rfl (fV (C := cS) 2 rfl rfl) Gt) M ?_;refine aP (fun _ K => fY rfl ML K rfl rfl (fV (C := cS) 2 rfl rfl) Gt rfl) M ?_;obtain ⟨b10, Rb, h⟩ := aB h;intro a K;refine iB K (dH (vs := [.pointer (some ⟨a7, 0, none⟩), .string (bs e10)]) (cap := []) rfl Fc K rfl rfl (pD (show Mem _ _ _ [.Cd a7 148 A2 l2.length c2, .row 5 1 A2 l2.length c2 ((cI .u8).all (lL l2)), .row 9 1 A r3.1.length c (cS.all r3.1), .blk cM 31 [I iD, I lI, .slice jG jO.length jH]] from M.pick [1,0,2,3] aC) Rb)) ?_;clear K M; rintro _ a w ⟨Rc, c12, M⟩ K;revert a;refine jL 7 80 h ?_ ?_
  ·intro hb h;refine dR 5 h ?_ ?_
   ·intro hb h;refine dR 7 h ?_ ?_
    ·intro hb h;obtain ⟨_, h0, h⟩ := aB h;have h0 := nS h0;refine aI 3 ?_;refine aP (fun _ K => pY rfl K rfl rfl h0) M ?_;obtain ⟨x9, hx, h⟩ := gY h;refine rO 2 hx ?_;obtain ⟨r16, CZ, h⟩ := aB h;refine iC 6 (tS CZ) ?_;intro w M;obtain ⟨b11, Me, h⟩ := aB h;refine aI 9 ?_;intro a K;refine iB K (dH (vs := [.pointer (some ⟨a7, 0, none⟩), .string (bs r16.1)]) (cap := []) rfl Fc K rfl rfl (pD (show Mem _ _ _ [.Cd a7 148 Rc b10.length c12, .row 5 1 Rc b10.length c12 ((cI .u8).all (lL b10)), .row 9 1 A r3.1.length c (cS.all r3.1), .blk cM 31 [I iD, I lI, .slice jG jO.length jH]] from M.pick [0,1,2,3] aC) Me)) ?_;clear K M; rintro _ a w ⟨NO, c13, M⟩ K;revert a;exact lJ 8 (b11, IntKind.i64.wrap (i + 1)) (M.pick [1,0,2,3] aC)
    intro hb h;obtain ⟨E2, Mf, h⟩ := aB h;refine iC 6 (tS Mf) ?_;intro w M;obtain ⟨b12, Mg, h⟩ := aB h;refine aI 9 ?_;intro a K;refine iB K (dH (vs := [.pointer (some ⟨a7, 0, none⟩), .string (bs E2.1)]) (cap := []) rfl Fc K rfl rfl (pD (show Mem _ _ _ [.Cd a7 148 Rc b10.length c12, .row 5 1 Rc b10.length c12 ((cI .u8).all (lL b10)), .row 9 1 A r3.1.length c (cS.all r3.1), .blk cM 31 [I iD, I lI, .slice jG jO.length jH]] from M.pick [0,1,2,3] aC) Mg)) ?_;clear K M; rintro _ a w ⟨WP, c14, M⟩ K;revert a;exact lJ 8 (b12, IntKind.i64.wrap (i + 1)) (M.pick [1,0,2,3] aC)
   intro hb h;exact lJ 8 (b10, IntKind.i64.wrap (i + 1)) (M.pick [1,0,2,3] aC)
  intro hb h;exact lJ 14 (b10, IntKind.i64.wrap (i + 1)) (M.pick [1,0,2,3] aC)
 intro hb h;exact lS 3 (hk1 (l2, i)) (M.pick [0,1,2,3] aC)
theorem Mh {N : Nat} {d : List UInt8} {o p2 p3 : Int} {p4 : List Int} {Re : Option Addr} {Rf : Nat} {w0 : World} {r : Int × Int × List Int × Int} (h : Er N d o p2 p3 p4 = some r) (WQ : SL w0 (cI .i64) Re p4) (WR : p4.length ≤ Rf) :
  Calls Tryz.prog 146 #[.string (bs d), I o, I p2, I p3, .slice Re p4.length Rf] w0 fun e w' => ∃ v, e = .returned v ∧ ∃ A2 c2, v = .tuple #[.agg #[I r.1, I r.2.1, .slice A2 r.2.2.1.length c2], I r.2.2.2] ∧ Mem w0.heap.size w0 w' [.row 3 1 A2 r.2.2.1.length c2 ((cI .i64).all r.2.2.1)] := by
 refine gE Tryz.func146 Tryz.ntmps146 ?_;intro M;unfold Er at h;refine fN 2 ?_;intro cM w M;refine fN 0 ?_;intro a7 w M;refine jL 9 24 h ?_ ?_
 ·intro hb h;refine dU 17 ?_;intro w M;exact bU 5 (((Mem.aE 3 1 (cI .i64) M)).pick [0] aC)
 intro hb h;refine jL 4 28 h ?_ ?_
 ·intro hb h;refine dU 13 ?_;intro w M;exact bU 5 (((Mem.aE 3 1 (cI .i64) M)).pick [0] aC)
 intro hb h;refine jL 4 32 h ?_ ?_
 ·intro hb h;refine dU 9 ?_;intro w M;exact bU 5 (((Mem.aE 3 1 (cI .i64) M)).pick [0] aC)
 intro hb h;refine dR 5 h ?_ ?_
 ·intro hb h;refine dU 3 ?_;intro w M;exact bU 5 (((Mem.aE 3 1 (cI .i64) M)).pick [0] aC)
 intro hb h;refine jL 8 39 h ?_ ?_
 ·intro hb h;refine dU 9 ?_;intro w M;exact bU 5 (((Mem.aE 3 1 (cI .i64) M)).pick [0] aC)
 intro hb h;refine dR 5 h ?_ ?_
 ·intro hb h;refine dU 3 ?_;intro w M;exact bU 5 (((Mem.aE 3 1 (cI .i64) M)).pick [0] aC)
 intro hb h;obtain ⟨r2, dC, h⟩ := aB h;refine iC 6 (Dy dC ((dA WQ) _ M) WR) ?_;intro w M;refine dR 9 h ?_ ?_
 ·intro hb h;refine dU 4 ?_;intro w M;exact bU 5 (((Mem.aE 3 1 (cI .i64) M)).pick [0] aC)
 intro hb h;refine aI 6 ?_;refine aP (fun _ K => aO rfl K (vs := [(0, I o), (1, I p2)]) (cs := [I o, I p2, .slice none ([] : List Int).length 0]) rfl aF) M ?_;refine fN 0 ?_;intro cW w M;refine dU 0 ?_;intro w M;refine fN 4 ?_;intro f7 w M;refine dU 0 ?_;intro w M;refine aI 18 ?_;replace M := Mem.aE 3 1 (cI .i64) M;refine pT 0 0 (fun (⟨zW, x3, x4, i⟩ : List Int × List UInt8 × List UInt8 × Int) a w => ∃ (A : Option Addr) (c : Nat), Kn a 123 [(3, I p3), (4, .slice Re p4.length Rf), (5, .pointer (some ⟨cM, 0, none⟩)), (10, .pointer (some ⟨a7, 0, none⟩)), (13, .pointer (some ⟨cW, 0, none⟩)), (14, .pointer (some ⟨f7, 0, none⟩)), (15, .func (.func 176) #[] #[.pointer (some ⟨f7, 0, none⟩), .pointer (some ⟨cM, 0, none⟩)]), (56, I (IntKind.i64.wrap (o * p2))), (57, I i)] ∧ Mem w0.heap.size w0 w [.row 3 1 A zW.length c ((cI .i64).all zW), .blk f7 9 [.string (bs x3)], .blk cW 31 [I o, I p2, .slice A zW.length c], .blk a7 31 [I 0, I 0, .slice none ([] : List Int).length 0], .blk cM 9 [.string (bs x4)]]) (M.pick [0,1,2,3,4] aC) ?_ ?_
 ·clear M h;rintro ⟨El, x27, x28, i8⟩ a w ⟨A7, c7, K, M⟩ h;try dsimp only at h
  revert a;refine aI 6 ?_;refine aP (fun _ K => EL rfl K rfl rfl) M ?_;refine jL 1 117 h ?_ ?_
  ·intro hb h;refine dU 9 ?_;intro w M;exact bU 5 (((Mem.aE 3 1 (cI .i64) M)).pick [0] aC)
  intro hb h;obtain ⟨Ni, Rg, h⟩ := aB h;refine iC 1 (FO N x27 ([49] : List UInt8) _  Ni Rg) ?_;intro w M;refine dR 3 h ?_ ?_
  ·intro hb h;refine dU 3 ?_;intro w M;exact bU 5 (((Mem.aE 3 1 (cI .i64) M)).pick [0] aC)
  intro hb h;refine dU 5 ?_;intro w M;exact bU 4 (M.pick [0] aC)
 clear M h;rintro kk fuel ⟨zW, x3, x4, i⟩ a w hk1 ⟨A, c, K, M⟩ h;unfold p8 at h;revert a;refine dR 6 h ?_ ?_
 ·intro hb h;refine aI 14 ?_;intro a K;refine iB K (a8 rfl eZ z3 K (vs := [(0, I 0)]) (cs := [I 0]) rfl aF rfl rfl M) ?_;have M0 := M; clear K M; rintro _ a w ⟨gs2, rfl, M⟩ K;replace M := M.iF 0 rfl (cI .i64) ([0] : List Int) (n := 1) rfl rfl rfl;clear M0;obtain ⟨sQ, FP, h⟩ := aB h;refine iB K (jK (C := (cI .i64)) (xs := zW) (ys := ([0] : List Int)) rfl eZ rfl z3 rfl rfl K rfl rfl 1 M rfl ((fV (C := (cI .i64)) 0 rfl rfl) _ M) FP) ?_;clear K M; rintro _ a w ⟨A4, c4, rfl, M⟩ K;revert a;refine dU 1 ?_;intro w M;refine aI 6 ?_;intro a K;refine wY (vs := [.slice Re p4.length Rf, .func (.func 176) #[] #[.pointer (some ⟨f7, 0, none⟩), .pointer (some ⟨cM, 0, none⟩)]]) (cap := []) K (aA rfl) rfl rfl rfl QO rfl rfl ?_; clear K;refine gD Tryz.func178 rfl Tryz.ntmps178 rfl ?_;refine aI 12 ?_;intro a K;refine We (Rel := fun (⟨ER, Si, i4, i5, w3⟩ : List UInt8 × List UInt8 × Int × Int × List UInt8) a w => Kn a 39 [(0, .slice Re p4.length Rf), (1, .func (.func 176) #[] #[.pointer (some ⟨f7, 0, none⟩), .pointer (some ⟨cM, 0, none⟩)]), (4, I i4), (5, I i5), (6, .string (bs w3))] ∧ Mem w0.heap.size w0 w [.row 3 1 (some ⟨gs2, 0, none⟩) ([0] : List Int).length 1 ((cI .i64).all ([0] : List Int)), .row 3 1 A4 sQ.length c4 ((cI .i64).all sQ), .blk f7 9 [.string (bs ER)], .blk cW 31 [I o, I p2, .slice A4 sQ.length c4], .blk a7 31 [I 0, I 0, .slice none ([] : List Int).length 0], .blk cM 9 [.string (bs Si)]]) h (fun _ _ => rfl) ⟨K.pick [0,1,4,5,6], M.pick [0,1,2,3,4,5] aC⟩ ?_ ?_
  ·clear K M h;rintro ⟨x20, x21, i6, i7, w4⟩ a w ⟨K, M⟩ h;try dsimp only at h
   revert a;refine aI 1 ?_;intro a K;refine II K rfl (cQ K rfl) (cQ K rfl) ⟨_, rfl, ?_⟩; clear K; intro a K;revert a;refine dR 14 h ?_ ?_
   ·intro hb h;refine dU 3 ?_;intro w M;exact bU 10 (((Mem.aE 3 1 (cI .i64) M)).pick [0] aC)
   intro hb h;refine dR 16 h ?_ ?_
   ·intro hb h;refine aI 5 ?_;intro a K;refine aM (fun w => Mem _ _ w _) [0,0,0,0,0,0,1,0,0,0,0,0,2] aF aF M.drew ?_;replace M := M.drew;revert a;obtain ⟨r16, CZ, h⟩ := aB h;refine aI 6 ?_;intro a K;refine qV K (nZ IU K (v7 CZ ((fV (C := (cI .i64)) 1 rfl rfl) _ M) (M.cap 1 rfl))) ?_;clear K; rintro _ a w ⟨rfl, Zq⟩ K;replace M := M.call Zq; clear Zq;refine ⟨M.pick [0,1,2,3,4,5] aC, ?_⟩;revert a;obtain ⟨e8, vG, h⟩ := aB h;refine aI 4 ?_;refine fU (fun _ K => fA rfl eZ K rfl rfl ((fV (C := (cI .i64)) 1 rfl rfl) _ M) vG) ?_;obtain ⟨l6, WS, h⟩ := aB h;intro a K;refine CC K (fO (el := IntKind.i64.wrap (IntKind.u16.wrap (IntKind.i64.wrap (r16 + 32768)))) rfl wW rfl rfl K rfl rfl rfl 1 M rfl WS) ?_;have M0 := M; clear K M; rintro _ a w M K;have hl := gP WS;try rw [hl] at M
    try rw [hl] at K
    clear hl;clear M0;revert a;exact lJ 8 (l6, x20, x21, IntKind.i64.wrap (i + 1)) (M.pick [1,2,3,4,5] aC)
   intro hb h;refine dR 7 h ?_ ?_
   ·intro hb h;refine aI 4 ?_;intro a K;refine wY (vs := [I i6]) (cap := [.pointer (some ⟨f7, 0, none⟩), .pointer (some ⟨cM, 0, none⟩)]) K (aA rfl) rfl rfl rfl NB rfl rfl ?_; clear K;refine gD Tryz.func176 rfl Tryz.ntmps176 rfl ?_;refine pT 8 0 (fun (⟨Ib, x23⟩ : List UInt8 × List UInt8) a w => Kn a 33 [(0, I i6), (1, .pointer (some ⟨f7, 0, none⟩)), (2, .pointer (some ⟨cM, 0, none⟩))] ∧ Mem w0.heap.size w0 w [.row 3 1 (some ⟨gs2, 0, none⟩) ([0] : List Int).length 1 ((cI .i64).all ([0] : List Int)), .row 3 1 A4 sQ.length c4 ((cI .i64).all sQ), .blk f7 9 [.string (bs Ib)], .blk cW 31 [I o, I p2, .slice A4 sQ.length c4], .blk a7 31 [I 0, I 0, .slice none ([] : List Int).length 0], .blk cM 9 [.string (bs x23)]]) (M.pick [0,1,2,3,4,5] aC) ?_ ?_
    ·clear M h;rintro ⟨x24, x25⟩ a w ⟨K, M⟩ h;try dsimp only at h
     revert a;refine aI 6 ?_;refine aP (fun _ K => gT rfl nY K rfl) M ?_;refine dR 4 h ?_ ?_
     ·intro hb h;refine aI 8 ?_;intro a K;refine II K rfl (cQ K rfl) (cQ K rfl) ⟨_, rfl, ?_⟩; clear K; intro a K;revert a;refine dU 18 ?_;intro w M;exact bU 12 (((Mem.aE 3 1 (cI .i64) M)).pick [0] aC)
     intro hb h;obtain ⟨Ym, WT, h⟩ := aB h;refine aI 6 ?_;refine aP (fun _ K => hT (k := .i64) (k' := .i64) rfl nY K rfl rfl rfl WT) M ?_;obtain ⟨VZ, WU, h⟩ := aB h;refine aI 7 ?_;refine aP (fun _ K => hT (k := .i64) (k' := .i64) rfl nY K rfl rfl rfl WU) M ?_;refine dU 0 ?_;intro w M;refine aI 10 ?_;intro a K;refine II K rfl (cQ K rfl) (cQ K rfl) ⟨_, rfl, ?_⟩; clear K; intro a K;revert a;obtain ⟨FE, Mi, h⟩ := aB h;refine iC 20 (Le Mi) ?_;intro w M;obtain ⟨b2, Q6, h⟩ := aB h;refine aI 9 ?_;refine aP (fun _ K => oX rfl nY K rfl rfl Q6) M ?_;refine dR 3 h ?_ ?_
     ·intro hb h;obtain ⟨_, h0, h⟩ := aB h;have h0 := nS h0;refine aI 3 ?_;refine aP (fun _ K => pY rfl K rfl rfl h0) M ?_;obtain ⟨Yn, hx, h⟩ := gY h;refine rO 2 hx ?_;refine aI 3 ?_;intro a K;refine aM (fun w => Mem _ _ w _) [0,0,0,0,0,0,1,0,0,0,0,0,2] aF aF M.drew ?_;replace M := M.drew;revert a;obtain ⟨HH, Rh, h⟩ := aB h;refine aI 6 ?_;intro a K;refine qV K (nZ IU K (v7 Rh ((fV (C := (cI .i64)) 1 rfl rfl) _ M) (M.cap 1 rfl))) ?_;clear K; rintro _ a w ⟨rfl, Zq⟩ K;replace M := M.call Zq; clear Zq;refine ⟨M.pick [0,1,2,3,4,5] aC, ?_⟩;revert a;obtain ⟨e9, Jy, h⟩ := aB h;refine aI 4 ?_;refine fU (fun _ K => fA rfl eZ K rfl rfl ((fV (C := (cI .i64)) 1 rfl rfl) _ M) Jy) ?_;obtain ⟨l7, uY, h⟩ := aB h;intro a K;refine CC K (fO (el := IntKind.i64.wrap (IntKind.u16.wrap (IntKind.i64.wrap (HH + Yn)))) rfl wW rfl rfl K rfl rfl rfl 1 M rfl uY) ?_;have M0 := M; clear K M; rintro _ a w M K;have hl := gP uY;try rw [hl] at M
      try rw [hl] at K
      clear hl;clear M0;revert a;exact lJ 8 (l7, VZ, x25, IntKind.i64.wrap (i + 1)) (M.pick [1,2,3,4,5] aC)
     intro hb h;refine aI 3 ?_;intro a K;refine aM (fun w => Mem _ _ w _) [0,0,0,0,0,0,1,0,0,0,0,0,2] aF aF M.drew ?_;replace M := M.drew;revert a;obtain ⟨Ic, Ri, h⟩ := aB h;refine aI 6 ?_;intro a K;refine qV K (nZ IU K (v7 Ri ((fV (C := (cI .i64)) 1 rfl rfl) _ M) (M.cap 1 rfl))) ?_;clear K; rintro _ a w ⟨rfl, Zq⟩ K;replace M := M.call Zq; clear Zq;refine ⟨M.pick [0,1,2,3,4,5] aC, ?_⟩;revert a;obtain ⟨e10, Gt, h⟩ := aB h;refine aI 4 ?_;refine fU (fun _ K => fA rfl eZ K rfl rfl ((fV (C := (cI .i64)) 1 rfl rfl) _ M) Gt) ?_;obtain ⟨l8, WV, h⟩ := aB h;intro a K;refine CC K (fO (el := IntKind.i64.wrap (IntKind.u16.wrap (IntKind.i64.wrap (Ic + FE.1)))) rfl wW rfl rfl K rfl rfl rfl 1 M rfl WV) ?_;have M0 := M; clear K M; rintro _ a w M K;have hl := gP WV;try rw [hl] at M
     try rw [hl] at K
     clear hl;clear M0;revert a;exact lJ 8 (l8, VZ, x25, IntKind.i64.wrap (i + 1)) (M.pick [1,2,3,4,5] aC)
    clear M h;rintro kk fuel ⟨Ib, x23⟩ a w hk4 ⟨K, M⟩ h;unfold Bw at h;revert a;refine aI 4 ?_;refine aP (fun _ K => gT rfl nY K rfl) M ?_;refine jL 3 11 h ?_ ?_
    ·intro hb h;refine aI 1 ?_;refine aP (fun _ K => EL rfl K rfl rfl) M ?_;refine dR 3 h ?_ ?_
     ·intro hb h;refine aI 4 ?_;intro a K;refine aM (fun w => Mem _ _ w _) [0,0,0,1,0,2] aF aF M.drew ?_;replace M := M.drew;revert a;obtain ⟨ZJ, WW, h⟩ := aB h;refine aI 2 ?_;refine fU (fun _ K => hT (k := .i64) (k' := .i64) rfl nY K rfl rfl rfl WW) ?_;obtain ⟨Dk, Gs, h⟩ := aB h;intro a K;refine qV K (nZ NC K (HY Gs)) ?_;clear K; rintro _ a w ⟨rfl, Zq⟩ K;replace M := M.call Zq; clear Zq;refine ⟨M.pick [0,1,2,3,4,5] aC, ?_⟩;obtain ⟨Yj, WX, h⟩ := aB h;revert a;refine fU (fun _ K => jQ rfl K rfl rfl WX) ?_;intro a K;refine CC K (aN rfl ML K rfl rfl rfl 2 M rfl rfl) ?_;clear K M; rintro _ a w M K;revert a;obtain ⟨Yk, WY, h⟩ := aB h;refine aI 4 ?_;refine aP (fun _ K => hT (k := .i64) (k' := .i64) rfl nY K rfl rfl rfl WY) M ?_;refine dU 0 ?_;intro w M;exact lJ 3 (Yj, Yk) (M.pick [0,1,2,3,4,5] aC)
     intro hb h;exact lS 3 (hk4 (Ib, x23)) (M.pick [0,1,2,3,4,5] aC)
    intro hb h;exact lS 9 (hk4 (Ib, x23)) (M.pick [0,1,2,3,4,5] aC)
   intro hb h;refine aI 3 ?_;intro a K;refine aM (fun w => Mem _ _ w _) [0,0,0,0,0,0,1,0,0,0,0,0,2] aF aF M.drew ?_;replace M := M.drew;revert a;obtain ⟨IL, Rj, h⟩ := aB h;refine aI 6 ?_;intro a K;refine qV K (nZ IU K (v7 Rj ((fV (C := (cI .i64)) 1 rfl rfl) _ M) (M.cap 1 rfl))) ?_;clear K; rintro _ a w ⟨rfl, Zq⟩ K;replace M := M.call Zq; clear Zq;refine ⟨M.pick [0,1,2,3,4,5] aC, ?_⟩;revert a;obtain ⟨e11, OH, h⟩ := aB h;refine aI 4 ?_;refine fU (fun _ K => fA rfl eZ K rfl rfl ((fV (C := (cI .i64)) 1 rfl rfl) _ M) OH) ?_;obtain ⟨l9, SR, h⟩ := aB h;intro a K;refine CC K (fO (el := IntKind.i64.wrap (IntKind.u16.wrap (IntKind.i64.wrap (IL + 0)))) rfl wW rfl rfl K rfl rfl rfl 1 M rfl SR) ?_;have M0 := M; clear K M; rintro _ a w M K;have hl := gP SR;try rw [hl] at M
   try rw [hl] at K
   clear hl;clear M0;revert a;exact lJ 8 (l9, x20, x21, IntKind.i64.wrap (i + 1)) (M.pick [1,2,3,4,5] aC)
  clear K M h;rintro kk fuel ⟨ER, Si, i4, i5, w3⟩ a w hk2 ⟨K, M⟩ h;unfold By at h;revert a;obtain ⟨BX, BN, h⟩ := aB h;refine iC 5 (Mb BN ((dA WQ) _ M) WR) ?_;intro A6 c6 w M;refine dR 16 h ?_ ?_
  ·intro hb h;obtain ⟨e7, rD, h⟩ := aB h;refine aI 3 ?_;refine aP (fun _ K => f5 rfl eZ K rfl rfl (fV (C := (cI .i64)) 0 rfl rfl) rD) M ?_;refine aP (fun _ K => fY rfl iN K rfl rfl (fV (C := (cI .i64)) 0 rfl rfl) rD rfl) M ?_;refine aI 8 ?_;intro a K;exact oK (hk2 (ER, Si, e7, BX.2.2, w3) _ _ ⟨K.pick [0,1,4,5,6], M.pick [1,2,3,4,5,6] aC⟩ h)
  intro hb h;refine aI 5 ?_;intro a K;refine wY (vs := [I 1]) (cap := [.pointer (some ⟨f7, 0, none⟩), .pointer (some ⟨cM, 0, none⟩)]) K (aA rfl) rfl rfl rfl NB rfl rfl ?_; clear K;refine gD Tryz.func176 rfl Tryz.ntmps176 rfl ?_;refine pT 8 0 (fun (⟨Jr, Nh⟩ : List UInt8 × List UInt8) a w => Kn a 33 [(0, I 1), (1, .pointer (some ⟨f7, 0, none⟩)), (2, .pointer (some ⟨cM, 0, none⟩))] ∧ Mem w0.heap.size w0 w [.row 3 1 A6 BX.1.length c6 ((cI .i64).all BX.1), .row 3 1 (some ⟨gs2, 0, none⟩) ([0] : List Int).length 1 ((cI .i64).all ([0] : List Int)), .row 3 1 A4 sQ.length c4 ((cI .i64).all sQ), .blk f7 9 [.string (bs Jr)], .blk cW 31 [I o, I p2, .slice A4 sQ.length c4], .blk a7 31 [I 0, I 0, .slice none ([] : List Int).length 0], .blk cM 9 [.string (bs Nh)]]) (M.pick [0,1,2,3,4,5,6] aC) ?_ ?_
  ·clear M h;rintro ⟨x18, Sj⟩ a w ⟨K, M⟩ h;try dsimp only at h
   revert a;refine aI 6 ?_;refine aP (fun _ K => gT rfl nY K rfl) M ?_;refine dR 4 h ?_ ?_
   ·intro hb h;refine aI 8 ?_;intro a K;refine II K rfl (cQ K rfl) (cQ K rfl) ⟨_, rfl, ?_⟩; clear K; intro a K;revert a;refine jL 13 32 h ?_ ?_
    ·intro hb h;refine aI 15 ?_;intro a K;exact oK (hk2 (x18, Sj, 0, 1, w3) _ _ ⟨K.pick [0,1,4,5,6], M.pick [1,2,3,4,5,6] aC⟩ h)
    intro hb h;refine aI 15 ?_;intro a K;exact oK (hk2 (x18, Sj, 0, 1, w3) _ _ ⟨K.pick [0,1,4,5,6], M.pick [1,2,3,4,5,6] aC⟩ h)
   intro hb h;obtain ⟨s24, WZ, h⟩ := aB h;refine aI 6 ?_;refine aP (fun _ K => hT (k := .i64) (k' := .i64) rfl nY K rfl rfl rfl WZ) M ?_;obtain ⟨VY, W1, h⟩ := aB h;refine aI 7 ?_;refine aP (fun _ K => hT (k := .i64) (k' := .i64) rfl nY K rfl rfl rfl W1) M ?_;refine dU 0 ?_;intro w M;refine aI 10 ?_;intro a K;refine II K rfl (cQ K rfl) (cQ K rfl) ⟨_, rfl, ?_⟩; clear K; intro a K;revert a;refine jL 13 32 h ?_ ?_
   ·intro hb h;refine aI 15 ?_;intro a K;exact oK (hk2 (VY, Sj, 0, 1, w3) _ _ ⟨K.pick [0,1,4,5,6], M.pick [1,2,3,4,5,6] aC⟩ h)
   intro hb h;obtain ⟨Yl, W2, h⟩ := aB h;refine aI 11 ?_;refine aP (fun _ K => jQ rfl K rfl rfl W2) M ?_;exact lJ 4 (VY, Sj, i4, i5, Yl) (M.pick [1,2,3,4,5,6] aC)
  clear M h;rintro kk fuel ⟨Jr, Nh⟩ a w hk3 ⟨K, M⟩ h;unfold Bv at h;revert a;refine aI 4 ?_;refine aP (fun _ K => gT rfl nY K rfl) M ?_;refine jL 3 11 h ?_ ?_
  ·intro hb h;refine aI 1 ?_;refine aP (fun _ K => EL rfl K rfl rfl) M ?_;refine dR 3 h ?_ ?_
   ·intro hb h;refine aI 4 ?_;intro a K;refine aM (fun w => Mem _ _ w _) [0,0,0,1,0,2] aF aF M.drew ?_;replace M := M.drew;revert a;obtain ⟨ZI, W4, h⟩ := aB h;refine aI 2 ?_;refine fU (fun _ K => hT (k := .i64) (k' := .i64) rfl nY K rfl rfl rfl W4) ?_;obtain ⟨Em, CY, h⟩ := aB h;intro a K;refine qV K (nZ NC K (HY CY)) ?_;clear K; rintro _ a w ⟨rfl, Zq⟩ K;replace M := M.call Zq; clear Zq;refine ⟨M.pick [0,1,2,3,4,5,6] aC, ?_⟩;obtain ⟨Yh, W5, h⟩ := aB h;revert a;refine fU (fun _ K => jQ rfl K rfl rfl W5) ?_;intro a K;refine CC K (aN rfl ML K rfl rfl rfl 3 M rfl rfl) ?_;clear K M; rintro _ a w M K;revert a;obtain ⟨Yi, W6, h⟩ := aB h;refine aI 4 ?_;refine aP (fun _ K => hT (k := .i64) (k' := .i64) rfl nY K rfl rfl rfl W6) M ?_;refine dU 0 ?_;intro w M;exact lJ 3 (Yh, Yi) (M.pick [0,1,2,3,4,5,6] aC)
   intro hb h;exact lS 3 (hk3 (Jr, Nh)) (M.pick [0,1,2,3,4,5,6] aC)
  intro hb h;exact lS 9 (hk3 (Jr, Nh)) (M.pick [0,1,2,3,4,5,6] aC)
 intro hb h;exact lS 3 (hk1 (zW, x3, x4, i)) (M.pick [0,1,2,3,4] aC)
theorem w8 {N : Nat} {x2 : List Int} {Vb : Option Addr} {Vc : Nat} {w0 : World} {r : Int} (h : oP N x2 = some r) (SS : SL w0 (cI .i64) Vb x2) (aAf : x2.length ≤ Vc) :
  Calls Tryz.prog 47 #[.slice Vb x2.length Vc] w0 fun e w' => ∃ v, e = .returned v ∧ v = I r ∧ Mem w0.heap.size w0 w' [] := by
 refine gE Tryz.func47 Tryz.ntmps47 ?_;intro M;unfold oP at h;refine dR 13 h ?_ ?_
 ·intro hb h;refine aI 1 ?_;refine aP (fun _ K => jW rfl cc9 K rfl) M ?_;intro a K;cases h
 intro hb h;obtain ⟨e, Ii, h⟩ := aB h;refine aI 5 ?_;refine aP (fun _ K => f5 rfl eZ K rfl rfl (dA SS) Ii) M ?_;refine aP (fun _ K => fY rfl iN K rfl rfl (dA SS) Ii rfl) M ?_;refine pT 10 0 (fun (⟨m, i⟩ : Int × Int) a w => Kn a 25 [(0, .slice Vb x2.length Vc), (3, I m), (4, I i)] ∧ Mem w0.heap.size w0 w []) M.nQ ?_ ?_
 ·clear M h;rintro ⟨m4, i4⟩ a w ⟨K, M⟩ h;try dsimp only at h
  revert a;exact aZ 9 (M.pick [] aC)
 clear M h;rintro kk fuel ⟨m, i⟩ a w hk1 ⟨K, M⟩ h;unfold pM at h;revert a;refine dR 9 h ?_ ?_
 ·intro hb h;obtain ⟨e3, lH, h⟩ := aB h;refine aI 8 ?_;refine aP (fun _ K => f5 rfl eZ K rfl rfl (dA SS) lH) M ?_;refine aP (fun _ K => fY rfl iN K rfl rfl (dA SS) lH rfl) M ?_;obtain ⟨m3, hx, h⟩ := gY h;refine rO 1 hx ?_;obtain ⟨i3, hx, h⟩ := gY h;refine rO 6 hx ?_;exact lJ 2 (m3, i3) M.nQ
 intro hb h;exact lS 3 (hk1 (m, i)) M.nQ
theorem C0 {N : Nat} {s : List Int} {D6 : Option Addr} {Fd : Nat} {w0 : World} {r : List Int} (h : p7 N s = some r) (HT : SL w0 (cI .i64) D6 s) (PA : s.length ≤ Fd) :
  Calls Tryz.prog 48 #[.slice D6 s.length Fd] w0 fun e w' => ∃ v, e = .returned v ∧ ∃ A0 c0, v = .slice A0 r.length c0 ∧ Mem w0.heap.size w0 w' [.row 3 1 A0 r.length c0 ((cI .i64).all r)] := by
 refine gE Tryz.func48 Tryz.ntmps48 ?_;intro M;unfold p7 at h;refine aI 9 ?_
 by_cases hA : (D6).isNone = true
 ·have hs := SL.Gi HT hA;replace h : some ([] : List Int) = some r := by rw [hs] at h; exact h
  clear hs;refine aP (fun _ K => CO (b' := true) hA (u7 rfl Jt K rfl rfl)) M ?_;exact aZ 10 (((Mem.aE 3 1 (cI .i64) M)).pick [0] aC)
 refine aP (fun _ K => CO (b' := false) ((Bool.not_eq_true _).mp hA) (u7 rfl Jt K rfl rfl)) M ?_;refine aI 7 ?_;intro a K;refine iB K (Ds (C := (cI .i64)) rfl eZ rfl K M) ?_;clear K M; rintro _ a w ⟨gs, rfl, M⟩ K;revert a;obtain ⟨l2, sG, h⟩ := aB h;refine aI 1 ?_;intro a K;refine iB K (jK (C := (cI .i64)) (xs := ([] : List Int)) (ys := s) rfl eZ rfl z3 rfl rfl K rfl rfl 0 M rfl ((dA HT) _ M) sG) ?_;clear K M; rintro _ a w ⟨A, c, rfl, M⟩ K;revert a;exact aZ 4 (M.pick [0] aC)
theorem Fh {N : Nat} {iR kL : Int} {gL : List Int} {fC : Option Addr} {fD : Nat} {w0 : World} {r : Bool} (h : yC N iR kL gL = some r) (k6 : SL w0 (cI .i64) fC gL) (qI : gL.length ≤ fD) :
  Calls Tryz.prog 110 #[.agg #[I iR, I kL, .slice fC gL.length fD]] w0 fun e w' => ∃ v, e = .returned v ∧ v = .bool r ∧ Mem w0.heap.size w0 w' [] := by
 refine gE Tryz.func110 Tryz.ntmps110 ?_;intro M;unfold yC at h;refine fN 2 ?_;intro w7 w M;refine jL 10 8 h ?_ ?_
 ·intro hb h;exact aZ 35 (M.pick [] aC)
 intro hb h;refine jL 5 13 h ?_ ?_
 ·intro hb h;exact aZ 30 (M.pick [] aC)
 intro hb h;refine jL 5 18 h ?_ ?_
 ·intro hb h;exact aZ 25 (M.pick [] aC)
 intro hb h;refine jL 5 23 h ?_ ?_
 ·intro hb h;exact aZ 20 (M.pick [] aC)
 intro hb h;refine dR 12 h ?_ ?_
 ·intro hb h;exact aZ 7 (M.pick [] aC)
 intro hb h;refine pT 12 0 (fun (i : Int) a w => Kn a 48 [(35, .slice fC gL.length fD), (36, I (gL.length : Int)), (37, I i)] ∧ Mem w0.heap.size w0 w []) M.nQ ?_ ?_
 ·clear M h;rintro i2 a w ⟨K, M⟩ h;try dsimp only at h
  revert a;exact aZ 8 (M.pick [] aC)
 clear M h;rintro kk fuel i a w hk1 ⟨K, M⟩ h;unfold w9 at h;revert a;refine dR 6 h ?_ ?_
 ·intro hb h;obtain ⟨e2, kA, h⟩ := aB h;refine aI 6 ?_;refine aP (fun _ K => f5 rfl eZ K rfl rfl (dA k6) kA) M ?_;refine aP (fun _ K => fY rfl iN K rfl rfl (dA k6) kA rfl) M ?_;refine jL 8 43 h ?_ ?_
  ·intro hb h;exact aZ 17 (M.pick [] aC)
  intro hb h;refine dR 5 h ?_ ?_
  ·intro hb h;exact aZ 11 (M.pick [] aC)
  intro hb h;exact lJ 8 (IntKind.i64.wrap (i + 1)) M.nQ
 intro hb h;exact lS 3 (hk1 i) M.nQ
theorem C1 {N : Nat} {n x2 y MG MH MI P7 v1 : Int} {oT Dz : Nat} {w0 : World} {r : Int} (h : xA N n x2 y MG MH MI P7 v1 = some r) (qO : gK w0 oT 22 #[I MG, I MH, I MI, I P7]) (I1 : gK w0 Dz 3 #[I v1]) :
  Calls Tryz.prog 267 #[I n, I x2, I y, .pointer (some ⟨oT, 0, none⟩), .pointer (some ⟨Dz, 0, none⟩)] w0 fun e w' => ∃ v, e = .returned v ∧ v = I r ∧ Mem w0.heap.size w0 w' [] := by
 refine gE Tryz.func267 Tryz.ntmps267 ?_;intro M;unfold xA at h;refine aI 9 ?_;refine aP (fun _ K => pY rfl K rfl rfl aC) M ?_;refine aI 2 ?_;refine aP (fun _ K => F7 rfl K rfl rfl) M ?_;obtain ⟨_, h0, h⟩ := aB h;have h0 := AD h0;refine aP (fun _ K => jS rfl KQ wW K rfl rfl h0.1 h0.2) M ?_;obtain ⟨e, Ii, h⟩ := aB h;refine aP (fun _ K => De rfl iN K rfl (yS qO) rfl rfl Ii) M ?_;obtain ⟨_, h0, h⟩ := aB h;have h0 := dV h0;refine aI 13 ?_;refine aP (fun _ K => iS rfl K rfl rfl h0) M ?_;exact aZ 4 (M.pick [] aC)
theorem yM {N : Nat} {iR kL : Int} {gL : List Int} {fC : Option Addr} {fD : Nat} {uB uC uD uE xB : Int} {u9 vA : Nat} {w0 : World} {r : Int × Int × List Int} (h : nB N iR kL gL uB uC uD uE xB = some r) (k6 : SL w0 (cI .i64) fC gL) (qI : gL.length ≤ fD) (Fi : gK w0 u9 22 #[I uB, I uC, I uD, I uE]) (Fj : gK w0 vA 3 #[I xB]) :
  Calls Tryz.prog 111 #[.agg #[I iR, I kL, .slice fC gL.length fD], .func (.func 267) #[] #[.pointer (some ⟨u9, 0, none⟩), .pointer (some ⟨vA, 0, none⟩)]] w0 fun e w' => ∃ v, e = .returned v ∧ ∃ A2 c2, v = .agg #[I r.1, I r.2.1, .slice A2 r.2.2.length c2] ∧ Mem w0.heap.size w0 w' [.row 3 1 A2 r.2.2.length c2 ((cI .i64).all r.2.2)] := by
 refine gE Tryz.func111 Tryz.ntmps111 ?_;intro M;unfold nB at h;refine fN 2 ?_;intro w7 w M;refine fN 0 ?_;intro cM w M;refine aI 3 ?_;intro a K;refine jE (fun w => Mem _ _ w _) [0,0,0,0,0,0,0,1,0,1,2] 11 [0,1,2,3,4,5,6,7,8,9,10] aF aF aF rfl M.drew ?_;replace M := M.drew;revert a;obtain ⟨x2, hx, h⟩ := gY h;refine aI 6 ?_;intro a K;refine eQ 6 [7,8,9,10] aF rfl K (aA rfl) rfl rfl (MD hx (rS rfl Jt K rfl)) ?_; clear K; intro a K;refine d6 [7,9] aF ⟨?_, ?_, trivial⟩
 ·obtain ⟨l2, sG, h⟩ := aB h;refine hZ [8,9,10] aF rfl K (aA rfl) rfl rfl (mX (C := (cI .i64)) (z := 0) rfl eZ rfl z3 rfl K rfl rfl M sG) ?_;clear K M; rintro _ a w ⟨A, c, rfl, M⟩ K;refine ⟨fun _ => M.pick [1,2] aC, ?_⟩;refine eQ 8 [9,10] aF rfl K (aA rfl) rfl rfl (aO rfl K (vs := [(0, I iR), (1, I kL), (2, .slice A l2.length c)]) (cs := [I iR, I kL, .slice A l2.length c]) rfl aF) ?_; clear K; intro a K;refine d6 [9] aF ⟨?_, trivial⟩;refine hZ [10] aF rfl K (aA rfl) rfl rfl (eK rfl z31 M) ?_;clear K M; rintro _ a w ⟨mV, rfl, M⟩ K;refine ⟨fun _ => M.pick [2,3] aC, ?_⟩;refine d6 [10] aF ⟨?_, trivial⟩;refine pC [] aF rfl K (aA rfl) rfl (bS rfl CD K rfl (ds := [I iR, I kL, .slice A l2.length c]) rfl rfl 0 M rfl rfl rfl) ?_;clear K M; rintro _ a w M K;refine ⟨fun h => absurd h aC, ?_⟩;revert a;refine pT 12 0 (fun (⟨cP, i⟩ : List Int × Int) a w => Kn a 43 [(1, .func (.func 267) #[] #[.pointer (some ⟨u9, 0, none⟩), .pointer (some ⟨vA, 0, none⟩)]), (2, .pointer (some ⟨w7, 0, none⟩)), (4, .pointer (some ⟨cM, 0, none⟩)), (5, .pointer (some ⟨mV, 0, none⟩)), (18, .slice fC gL.length fD), (19, I (gL.length : Int)), (20, I i)] ∧ Mem w0.heap.size w0 w [.blk mV 31 [I iR, I kL, .slice A cP.length c], .row 3 1 A cP.length c ((cI .i64).all cP), .blk cM 31 [I 0, I 0, .slice none ([] : List Int).length 0], .blk w7 31 [I iR, I kL, .slice fC gL.length fD]]) (M.pick [0,1,2,3] aC) ?_ ?_
  ·clear M h;rintro ⟨nC, i2⟩ a w ⟨K, M⟩ h;try dsimp only at h
   revert a;refine dU 5 ?_;intro w M;exact aZ 3 (M.pick [1] aC)
  clear M h;rintro kk fuel ⟨cP, i⟩ a w hk1 ⟨K, M⟩ h;unfold jD at h;revert a;refine dR 6 h ?_ ?_
  ·intro hb h;obtain ⟨e3, lH, h⟩ := aB h;refine aI 7 ?_;refine aP (fun _ K => f5 rfl eZ K rfl rfl (dA k6) lH) M ?_;refine aP (fun _ K => fY rfl iN K rfl rfl (dA k6) lH rfl) M ?_;refine aI 4 ?_;intro a K;refine aM (fun w => Mem _ _ w _) [0,0,0,0,0,0,0,0,0,0,0,0,0,1,0,0,2] aF aF M.drew ?_;replace M := M.drew;revert a;obtain ⟨_, h0, h⟩ := aB h;have h0 := dV h0;refine aI 8 ?_;refine fU (fun _ K => oI rfl K rfl rfl h0) ?_;obtain ⟨_, h0, h⟩ := aB h;have h0 := dV h0;refine aI 3 ?_;refine fU (fun _ K => iS rfl K rfl rfl h0) ?_;obtain ⟨r3, iJ, h⟩ := aB h;intro a K;refine qV K (dH (vs := [I e3, I (Int.tmod i iR), I (IntKind.i64.wrap (Int.tdiv i iR))]) (cap := [.pointer (some ⟨u9, 0, none⟩), .pointer (some ⟨vA, 0, none⟩)]) rfl ND K rfl rfl (C1 iJ (yS Fi _ M) (yS Fj _ M))) ?_;clear K; rintro _ a w ⟨rfl, Zq⟩ K;replace M := M.call Zq; clear Zq;refine ⟨M.pick [0,1,2,3] aC, ?_⟩;revert a;obtain ⟨e4, pQ, h⟩ := aB h;refine aI 1 ?_;refine fU (fun _ K => fA rfl eZ K rfl rfl ((fV (C := (cI .i64)) 1 rfl rfl) _ M) pQ) ?_;obtain ⟨l4, vH, h⟩ := aB h;intro a K;refine CC K (fO (el := min r3 65535) rfl wW rfl rfl K rfl rfl rfl 1 M rfl vH) ?_;have M0 := M; clear K M; rintro _ a w M K;have hl := gP vH;try rw [hl] at M
   try rw [hl] at K
   clear hl;clear M0;revert a;exact lJ 8 (l4, IntKind.i64.wrap (i + 1)) (M.pick [0,1,2,3] aC)
  intro hb h;exact lS 3 (hk1 (cP, i)) (M.pick [0,1,2,3] aC)
 ·refine hZ [7,8,10] aF rfl K (aA rfl) rfl rfl (eK rfl z31 M) ?_;clear K M; rintro _ a w ⟨nD, rfl, M⟩ K;refine ⟨fun _ => M.pick [1,2] aC, ?_⟩;refine d6 [7] aF ⟨?_, trivial⟩;obtain ⟨l5, uZ, h⟩ := aB h;refine hZ [8,10] aF rfl K (aA rfl) rfl rfl (mX (C := (cI .i64)) (z := 0) rfl eZ rfl z3 rfl K rfl rfl M uZ) ?_;clear K M; rintro _ a w ⟨A2, c2, rfl, M⟩ K;refine ⟨fun _ => M.pick [2,3] aC, ?_⟩;refine eQ 8 [10] aF rfl K (aA rfl) rfl rfl (aO rfl K (vs := [(0, I iR), (1, I kL), (2, .slice A2 l5.length c2)]) (cs := [I iR, I kL, .slice A2 l5.length c2]) rfl aF) ?_; clear K; intro a K;refine d6 [10] aF ⟨?_, trivial⟩;refine pC [] aF rfl K (aA rfl) rfl (bS rfl CD K rfl (ds := [I iR, I kL, .slice A2 l5.length c2]) rfl rfl 1 M rfl rfl rfl) ?_;clear K M; rintro _ a w M K;refine ⟨fun h => absurd h aC, ?_⟩;revert a;refine pT 12 0 (fun (⟨fL, i3⟩ : List Int × Int) a w => Kn a 43 [(1, .func (.func 267) #[] #[.pointer (some ⟨u9, 0, none⟩), .pointer (some ⟨vA, 0, none⟩)]), (2, .pointer (some ⟨w7, 0, none⟩)), (4, .pointer (some ⟨cM, 0, none⟩)), (5, .pointer (some ⟨nD, 0, none⟩)), (18, .slice fC gL.length fD), (19, I (gL.length : Int)), (20, I i3)] ∧ Mem w0.heap.size w0 w [.row 3 1 A2 fL.length c2 ((cI .i64).all fL), .blk nD 31 [I iR, I kL, .slice A2 fL.length c2], .blk cM 31 [I 0, I 0, .slice none ([] : List Int).length 0], .blk w7 31 [I iR, I kL, .slice fC gL.length fD]]) (M.pick [0,1,2,3] aC) ?_ ?_
  ·clear M h;rintro ⟨rC, i4⟩ a w ⟨K, M⟩ h;try dsimp only at h
   revert a;refine dU 5 ?_;intro w M;exact aZ 3 (M.pick [0] aC)
  clear M h;rintro kk fuel ⟨fL, i3⟩ a w hk1 ⟨K, M⟩ h;unfold jD at h;revert a;refine dR 6 h ?_ ?_
  ·intro hb h;obtain ⟨e7, rD, h⟩ := aB h;refine aI 7 ?_;refine aP (fun _ K => f5 rfl eZ K rfl rfl (dA k6) rD) M ?_;refine aP (fun _ K => fY rfl iN K rfl rfl (dA k6) rD rfl) M ?_;refine aI 4 ?_;intro a K;refine aM (fun w => Mem _ _ w _) [0,0,0,0,0,0,0,0,0,0,0,0,0,1,0,0,2] aF aF M.drew ?_;replace M := M.drew;revert a;obtain ⟨_, h0, h⟩ := aB h;have h0 := dV h0;refine aI 8 ?_;refine fU (fun _ K => oI rfl K rfl rfl h0) ?_;obtain ⟨_, h0, h⟩ := aB h;have h0 := dV h0;refine aI 3 ?_;refine fU (fun _ K => iS rfl K rfl rfl h0) ?_;obtain ⟨r5, qP, h⟩ := aB h;intro a K;refine qV K (dH (vs := [I e7, I (Int.tmod i3 iR), I (IntKind.i64.wrap (Int.tdiv i3 iR))]) (cap := [.pointer (some ⟨u9, 0, none⟩), .pointer (some ⟨vA, 0, none⟩)]) rfl ND K rfl rfl (C1 qP (yS Fi _ M) (yS Fj _ M))) ?_;clear K; rintro _ a w ⟨rfl, Zq⟩ K;replace M := M.call Zq; clear Zq;refine ⟨M.pick [0,1,2,3] aC, ?_⟩;revert a;obtain ⟨e8, vG, h⟩ := aB h;refine aI 1 ?_;refine fU (fun _ K => fA rfl eZ K rfl rfl ((fV (C := (cI .i64)) 0 rfl rfl) _ M) vG) ?_;obtain ⟨l7, uY, h⟩ := aB h;intro a K;refine CC K (fO (el := min r5 65535) rfl wW rfl rfl K rfl rfl rfl 0 M rfl uY) ?_;have M0 := M; clear K M; rintro _ a w M K;have hl := gP uY;try rw [hl] at M
   try rw [hl] at K
   clear hl;clear M0;revert a;exact lJ 8 (l7, IntKind.i64.wrap (i3 + 1)) (M.pick [0,1,2,3] aC)
  intro hb h;exact lS 3 (hk1 (fL, i3)) (M.pick [0,1,2,3] aC)
theorem I2 {N : Nat} {iR kL : Int} {gL : List Int} {fC : Option Addr} {fD : Nat} {AJ AK AL AM white : Int} {w0 : World} {r : Int × Int × List Int × Int} (h : AN N iR kL gL AJ AK AL AM white = some r) (k6 : SL w0 (cI .i64) fC gL) (qI : gL.length ≤ fD) :
  Calls Tryz.prog 266 #[.agg #[I iR, I kL, .slice fC gL.length fD], .agg #[I AJ, I AK, I AL, I AM], I white] w0 fun e w' => ∃ v, e = .returned v ∧ ∃ A2 c2, v = .tuple #[.agg #[I r.1, I r.2.1, .slice A2 r.2.2.1.length c2], I r.2.2.2] ∧ Mem w0.heap.size w0 w' [.row 3 1 A2 r.2.2.1.length c2 ((cI .i64).all r.2.2.1)] := by
 refine gE Tryz.func266 Tryz.ntmps266 ?_;intro M;unfold AN at h;refine fN 2 ?_;intro w7 w M;refine fN 0 ?_;intro OJ w M;refine fN 0 ?_;intro OK w M;refine fN 0 ?_;intro cM w M;obtain ⟨r2, dC, h⟩ := aB h;refine iC 7 (Fh dC ((dA k6) _ M) qI) ?_;intro w M;refine dR 3 h ?_ ?_
 ·intro hb h;refine dU 3 ?_;intro w M;exact bU 5 (((Mem.aE 3 1 (cI .i64) M)).pick [0] aC)
 intro hb h;refine pT 10 0 (fun (i : Int) a w => Kn a 34 [(3, .pointer (some ⟨w7, 0, none⟩)), (4, .pointer (some ⟨OJ, 0, none⟩)), (5, .pointer (some ⟨OK, 0, none⟩)), (6, .pointer (some ⟨cM, 0, none⟩)), (14, .agg #[I AJ, I AK, I AL, I AM]), (15, I i)] ∧ Mem w0.heap.size w0 w [.blk cM 31 [I 0, I 0, .slice none ([] : List Int).length 0], .blk OK 3 [I white], .blk OJ 22 [I AJ, I AK, I AL, I AM], .blk w7 31 [I iR, I kL, .slice fC gL.length fD]]) (M.pick [0,1,2,3] aC) ?_ ?_
 ·clear M h;rintro i2 a w ⟨K, M⟩ h;try dsimp only at h
  revert a;obtain ⟨r3, iJ, h⟩ := aB h;refine iC 6 (yM iJ ((dA k6) _ M) qI (M.aK (i := 2) rfl) (M.aK (i := 1) rfl)) ?_;intro A c w M;refine dU 0 ?_;intro w M;exact bU 4 (M.pick [0] aC)
 clear M h;rintro kk fuel i a w hk1 ⟨K, M⟩ h;unfold vM at h;revert a;refine dR 6 h ?_ ?_
 ·intro hb h;obtain ⟨e2, kA, h⟩ := aB h;refine aI 6 ?_;refine aP (fun _ K => Fy (C := (cI .i64)) (es := [AJ, AK, AL, AM]) rfl KQ iN K rfl rfl rfl kA rfl) M ?_;refine jL 8 20 h ?_ ?_
  ·intro hb h;refine dU 14 ?_;intro w M;exact bU 9 (((Mem.aE 3 1 (cI .i64) M)).pick [0] aC)
  intro hb h;refine jL 5 25 h ?_ ?_
  ·intro hb h;refine dU 9 ?_;intro w M;exact bU 9 (((Mem.aE 3 1 (cI .i64) M)).pick [0] aC)
  intro hb h;refine dR 5 h ?_ ?_
  ·intro hb h;refine dU 3 ?_;intro w M;exact bU 9 (((Mem.aE 3 1 (cI .i64) M)).pick [0] aC)
  intro hb h;exact lJ 8 (IntKind.i64.wrap (i + 1)) (M.pick [0,1,2,3] aC)
 intro hb h;exact lS 3 (hk1 i) (M.pick [0,1,2,3] aC)
theorem DN {N : Nat} {phase x2 y : Int} {w0 : World} {r : Int} (h : tX N phase x2 y = some r) :
  Calls Tryz.prog 162 #[I phase, I x2, I y] w0 fun e w' => ∃ v, e = .returned v ∧ v = I r ∧ Mem w0.heap.size w0 w' [] := by
 refine gE Tryz.func162 Tryz.ntmps162 ?_;intro M;unfold tX at h;refine aI 13 ?_;refine aP (fun _ K => nH rfl K rfl rfl aC) M ?_;exact aZ 7 (M.pick [] aC)
theorem DO {N : Nat} {n x2 y MG MH MI v1 : Int} {oT Dz : Nat} {w0 : World} {r : Int} (h : yW N n x2 y MG MH MI v1 = some r) (qO : gK w0 oT 24 #[I MG, I MH, I MI]) (I1 : gK w0 Dz 3 #[I v1]) :
  Calls Tryz.prog 271 #[I n, I x2, I y, .pointer (some ⟨oT, 0, none⟩), .pointer (some ⟨Dz, 0, none⟩)] w0 fun e w' => ∃ v, e = .returned v ∧ v = I r ∧ Mem w0.heap.size w0 w' [] := by
 refine gE Tryz.func271 Tryz.ntmps271 ?_;intro M;unfold yW at h;obtain ⟨r2, dC, h⟩ := aB h;refine iC 11 (DN dC) ?_;intro w M;obtain ⟨_, h0, h⟩ := aB h;have h0 := AD h0;refine aP (fun _ K => jS rfl BH wW K rfl rfl h0.1 h0.2) M ?_;obtain ⟨e, Ii, h⟩ := aB h;refine aP (fun _ K => De rfl iN K rfl (yS qO) rfl rfl Ii) M ?_;refine aI 1 ?_;refine aP (fun _ K => nH rfl K rfl rfl aC) M ?_;exact aZ 4 (M.pick [] aC)
theorem zQ {N : Nat} {iR kL : Int} {gL : List Int} {fC : Option Addr} {fD : Nat} {xC xD xE AO : Int} {xT xU : Nat} {w0 : World} {r : Int × Int × List Int} (h : nJ N iR kL gL xC xD xE AO = some r) (k6 : SL w0 (cI .i64) fC gL) (qI : gL.length ≤ fD) (Gu : gK w0 xT 24 #[I xC, I xD, I xE]) (Gv : gK w0 xU 3 #[I AO]) :
  Calls Tryz.prog 111 #[.agg #[I iR, I kL, .slice fC gL.length fD], .func (.func 271) #[] #[.pointer (some ⟨xT, 0, none⟩), .pointer (some ⟨xU, 0, none⟩)]] w0 fun e w' => ∃ v, e = .returned v ∧ ∃ A2 c2, v = .agg #[I r.1, I r.2.1, .slice A2 r.2.2.length c2] ∧ Mem w0.heap.size w0 w' [.row 3 1 A2 r.2.2.length c2 ((cI .i64).all r.2.2)] := by
 refine gE Tryz.func111 Tryz.ntmps111 ?_;intro M;unfold nJ at h;refine fN 2 ?_;intro w7 w M;refine fN 0 ?_;intro cM w M;refine aI 3 ?_;intro a K;refine jE (fun w => Mem _ _ w _) [0,0,0,0,0,0,0,1,0,1,2] 11 [0,1,2,3,4,5,6,7,8,9,10] aF aF aF rfl M.drew ?_;replace M := M.drew;revert a;obtain ⟨x2, hx, h⟩ := gY h;refine aI 6 ?_;intro a K;refine eQ 6 [7,8,9,10] aF rfl K (aA rfl) rfl rfl (MD hx (rS rfl Jt K rfl)) ?_; clear K; intro a K;refine d6 [7,9] aF ⟨?_, ?_, trivial⟩
 ·obtain ⟨l2, sG, h⟩ := aB h;refine hZ [8,9,10] aF rfl K (aA rfl) rfl rfl (mX (C := (cI .i64)) (z := 0) rfl eZ rfl z3 rfl K rfl rfl M sG) ?_;clear K M; rintro _ a w ⟨A, c, rfl, M⟩ K;refine ⟨fun _ => M.pick [1,2] aC, ?_⟩;refine eQ 8 [9,10] aF rfl K (aA rfl) rfl rfl (aO rfl K (vs := [(0, I iR), (1, I kL), (2, .slice A l2.length c)]) (cs := [I iR, I kL, .slice A l2.length c]) rfl aF) ?_; clear K; intro a K;refine d6 [9] aF ⟨?_, trivial⟩;refine hZ [10] aF rfl K (aA rfl) rfl rfl (eK rfl z31 M) ?_;clear K M; rintro _ a w ⟨mV, rfl, M⟩ K;refine ⟨fun _ => M.pick [2,3] aC, ?_⟩;refine d6 [10] aF ⟨?_, trivial⟩;refine pC [] aF rfl K (aA rfl) rfl (bS rfl CD K rfl (ds := [I iR, I kL, .slice A l2.length c]) rfl rfl 0 M rfl rfl rfl) ?_;clear K M; rintro _ a w M K;refine ⟨fun h => absurd h aC, ?_⟩;revert a;refine pT 12 0 (fun (⟨cP, i⟩ : List Int × Int) a w => Kn a 43 [(1, .func (.func 271) #[] #[.pointer (some ⟨xT, 0, none⟩), .pointer (some ⟨xU, 0, none⟩)]), (2, .pointer (some ⟨w7, 0, none⟩)), (4, .pointer (some ⟨cM, 0, none⟩)), (5, .pointer (some ⟨mV, 0, none⟩)), (18, .slice fC gL.length fD), (19, I (gL.length : Int)), (20, I i)] ∧ Mem w0.heap.size w0 w [.blk mV 31 [I iR, I kL, .slice A cP.length c], .row 3 1 A cP.length c ((cI .i64).all cP), .blk cM 31 [I 0, I 0, .slice none ([] : List Int).length 0], .blk w7 31 [I iR, I kL, .slice fC gL.length fD]]) (M.pick [0,1,2,3] aC) ?_ ?_
  ·clear M h;rintro ⟨nC, i2⟩ a w ⟨K, M⟩ h;try dsimp only at h
   revert a;refine dU 5 ?_;intro w M;exact aZ 3 (M.pick [1] aC)
  clear M h;rintro kk fuel ⟨cP, i⟩ a w hk1 ⟨K, M⟩ h;unfold jP at h;revert a;refine dR 6 h ?_ ?_
  ·intro hb h;obtain ⟨e3, lH, h⟩ := aB h;refine aI 7 ?_;refine aP (fun _ K => f5 rfl eZ K rfl rfl (dA k6) lH) M ?_;refine aP (fun _ K => fY rfl iN K rfl rfl (dA k6) lH rfl) M ?_;refine aI 4 ?_;intro a K;refine aM (fun w => Mem _ _ w _) [0,0,0,0,0,0,0,0,0,0,0,0,0,1,0,0,2] aF aF M.drew ?_;replace M := M.drew;revert a;obtain ⟨_, h0, h⟩ := aB h;have h0 := dV h0;refine aI 8 ?_;refine fU (fun _ K => oI rfl K rfl rfl h0) ?_;obtain ⟨_, h0, h⟩ := aB h;have h0 := dV h0;refine aI 3 ?_;refine fU (fun _ K => iS rfl K rfl rfl h0) ?_;obtain ⟨r3, iJ, h⟩ := aB h;intro a K;refine qV K (dH (vs := [I e3, I (Int.tmod i iR), I (IntKind.i64.wrap (Int.tdiv i iR))]) (cap := [.pointer (some ⟨xT, 0, none⟩), .pointer (some ⟨xU, 0, none⟩)]) rfl NE K rfl rfl (DO iJ (yS Gu _ M) (yS Gv _ M))) ?_;clear K; rintro _ a w ⟨rfl, Zq⟩ K;replace M := M.call Zq; clear Zq;refine ⟨M.pick [0,1,2,3] aC, ?_⟩;revert a;obtain ⟨e4, pQ, h⟩ := aB h;refine aI 1 ?_;refine fU (fun _ K => fA rfl eZ K rfl rfl ((fV (C := (cI .i64)) 1 rfl rfl) _ M) pQ) ?_;obtain ⟨l4, vH, h⟩ := aB h;intro a K;refine CC K (fO (el := min r3 65535) rfl wW rfl rfl K rfl rfl rfl 1 M rfl vH) ?_;have M0 := M; clear K M; rintro _ a w M K;have hl := gP vH;try rw [hl] at M
   try rw [hl] at K
   clear hl;clear M0;revert a;exact lJ 8 (l4, IntKind.i64.wrap (i + 1)) (M.pick [0,1,2,3] aC)
  intro hb h;exact lS 3 (hk1 (cP, i)) (M.pick [0,1,2,3] aC)
 ·refine hZ [7,8,10] aF rfl K (aA rfl) rfl rfl (eK rfl z31 M) ?_;clear K M; rintro _ a w ⟨nD, rfl, M⟩ K;refine ⟨fun _ => M.pick [1,2] aC, ?_⟩;refine d6 [7] aF ⟨?_, trivial⟩;obtain ⟨l5, uZ, h⟩ := aB h;refine hZ [8,10] aF rfl K (aA rfl) rfl rfl (mX (C := (cI .i64)) (z := 0) rfl eZ rfl z3 rfl K rfl rfl M uZ) ?_;clear K M; rintro _ a w ⟨A2, c2, rfl, M⟩ K;refine ⟨fun _ => M.pick [2,3] aC, ?_⟩;refine eQ 8 [10] aF rfl K (aA rfl) rfl rfl (aO rfl K (vs := [(0, I iR), (1, I kL), (2, .slice A2 l5.length c2)]) (cs := [I iR, I kL, .slice A2 l5.length c2]) rfl aF) ?_; clear K; intro a K;refine d6 [10] aF ⟨?_, trivial⟩;refine pC [] aF rfl K (aA rfl) rfl (bS rfl CD K rfl (ds := [I iR, I kL, .slice A2 l5.length c2]) rfl rfl 1 M rfl rfl rfl) ?_;clear K M; rintro _ a w M K;refine ⟨fun h => absurd h aC, ?_⟩;revert a;refine pT 12 0 (fun (⟨fL, i3⟩ : List Int × Int) a w => Kn a 43 [(1, .func (.func 271) #[] #[.pointer (some ⟨xT, 0, none⟩), .pointer (some ⟨xU, 0, none⟩)]), (2, .pointer (some ⟨w7, 0, none⟩)), (4, .pointer (some ⟨cM, 0, none⟩)), (5, .pointer (some ⟨nD, 0, none⟩)), (18, .slice fC gL.length fD), (19, I (gL.length : Int)), (20, I i3)] ∧ Mem w0.heap.size w0 w [.row 3 1 A2 fL.length c2 ((cI .i64).all fL), .blk nD 31 [I iR, I kL, .slice A2 fL.length c2], .blk cM 31 [I 0, I 0, .slice none ([] : List Int).length 0], .blk w7 31 [I iR, I kL, .slice fC gL.length fD]]) (M.pick [0,1,2,3] aC) ?_ ?_
  ·clear M h;rintro ⟨rC, i4⟩ a w ⟨K, M⟩ h;try dsimp only at h
   revert a;refine dU 5 ?_;intro w M;exact aZ 3 (M.pick [0] aC)
  clear M h;rintro kk fuel ⟨fL, i3⟩ a w hk1 ⟨K, M⟩ h;unfold jP at h;revert a;refine dR 6 h ?_ ?_
  ·intro hb h;obtain ⟨e7, rD, h⟩ := aB h;refine aI 7 ?_;refine aP (fun _ K => f5 rfl eZ K rfl rfl (dA k6) rD) M ?_;refine aP (fun _ K => fY rfl iN K rfl rfl (dA k6) rD rfl) M ?_;refine aI 4 ?_;intro a K;refine aM (fun w => Mem _ _ w _) [0,0,0,0,0,0,0,0,0,0,0,0,0,1,0,0,2] aF aF M.drew ?_;replace M := M.drew;revert a;obtain ⟨_, h0, h⟩ := aB h;have h0 := dV h0;refine aI 8 ?_;refine fU (fun _ K => oI rfl K rfl rfl h0) ?_;obtain ⟨_, h0, h⟩ := aB h;have h0 := dV h0;refine aI 3 ?_;refine fU (fun _ K => iS rfl K rfl rfl h0) ?_;obtain ⟨r5, qP, h⟩ := aB h;intro a K;refine qV K (dH (vs := [I e7, I (Int.tmod i3 iR), I (IntKind.i64.wrap (Int.tdiv i3 iR))]) (cap := [.pointer (some ⟨xT, 0, none⟩), .pointer (some ⟨xU, 0, none⟩)]) rfl NE K rfl rfl (DO qP (yS Gu _ M) (yS Gv _ M))) ?_;clear K; rintro _ a w ⟨rfl, Zq⟩ K;replace M := M.call Zq; clear Zq;refine ⟨M.pick [0,1,2,3] aC, ?_⟩;revert a;obtain ⟨e8, vG, h⟩ := aB h;refine aI 1 ?_;refine fU (fun _ K => fA rfl eZ K rfl rfl ((fV (C := (cI .i64)) 0 rfl rfl) _ M) vG) ?_;obtain ⟨l7, uY, h⟩ := aB h;intro a K;refine CC K (fO (el := min r5 65535) rfl wW rfl rfl K rfl rfl rfl 0 M rfl uY) ?_;have M0 := M; clear K M; rintro _ a w M K;have hl := gP uY;try rw [hl] at M
   try rw [hl] at K
   clear hl;clear M0;revert a;exact lJ 8 (l7, IntKind.i64.wrap (i3 + 1)) (M.pick [0,1,2,3] aC)
  intro hb h;exact lS 3 (hk1 (fL, i3)) (M.pick [0,1,2,3] aC)
theorem Jz {N : Nat} {iR kL : Int} {gL : List Int} {fC : Option Addr} {fD : Nat} {phase AP AQ AR : Int} {w0 : World} {r : Int × Int × List Int × Int} (h : Cj N iR kL gL phase AP AQ AR = some r) (k6 : SL w0 (cI .i64) fC gL) (qI : gL.length ≤ fD) :
  Calls Tryz.prog 270 #[.agg #[I iR, I kL, .slice fC gL.length fD], I phase, .agg #[I AP, I AQ, I AR]] w0 fun e w' => ∃ v, e = .returned v ∧ ∃ A2 c2, v = .tuple #[.agg #[I r.1, I r.2.1, .slice A2 r.2.2.1.length c2], I r.2.2.2] ∧ Mem w0.heap.size w0 w' [.row 3 1 A2 r.2.2.1.length c2 ((cI .i64).all r.2.2.1)] := by
 refine gE Tryz.func270 Tryz.ntmps270 ?_;intro M;unfold Cj at h;refine fN 2 ?_;intro w7 w M;refine fN 0 ?_;intro OL w M;refine fN 0 ?_;intro OM w M;refine fN 0 ?_;intro cM w M;obtain ⟨r2, dC, h⟩ := aB h;refine iC 7 (Fh dC ((dA k6) _ M) qI) ?_;intro w M;refine dR 3 h ?_ ?_
 ·intro hb h;refine dU 3 ?_;intro w M;exact bU 5 (((Mem.aE 3 1 (cI .i64) M)).pick [0] aC)
 intro hb h;refine pT 10 0 (fun (i : Int) a w => Kn a 37 [(3, .pointer (some ⟨w7, 0, none⟩)), (4, .pointer (some ⟨OL, 0, none⟩)), (5, .pointer (some ⟨OM, 0, none⟩)), (6, .pointer (some ⟨cM, 0, none⟩)), (14, .agg #[I AP, I AQ, I AR]), (15, I i)] ∧ Mem w0.heap.size w0 w [.blk cM 31 [I 0, I 0, .slice none ([] : List Int).length 0], .blk OM 24 [I AP, I AQ, I AR], .blk OL 3 [I phase], .blk w7 31 [I iR, I kL, .slice fC gL.length fD]]) (M.pick [0,1,2,3] aC) ?_ ?_
 ·clear M h;rintro i2 a w ⟨K, M⟩ h;try dsimp only at h
  revert a;obtain ⟨r3, iJ, h⟩ := aB h;refine iC 6 (zQ iJ ((dA k6) _ M) qI (M.aK (i := 1) rfl) (M.aK (i := 2) rfl)) ?_;intro A c w M;refine dU 0 ?_;intro w M;exact bU 4 (M.pick [0] aC)
 clear M h;rintro kk fuel i a w hk1 ⟨K, M⟩ h;unfold xF at h;revert a;refine dR 6 h ?_ ?_
 ·intro hb h;obtain ⟨e2, kA, h⟩ := aB h;refine aI 6 ?_;refine aP (fun _ K => Fy (C := (cI .i64)) (es := [AP, AQ, AR]) rfl BH iN K rfl rfl rfl kA rfl) M ?_;refine jL 8 20 h ?_ ?_
  ·intro hb h;refine dU 17 ?_;intro w M;exact bU 9 (((Mem.aE 3 1 (cI .i64) M)).pick [0] aC)
  intro hb h;refine jL 4 24 h ?_ ?_
  ·intro hb h;refine dU 13 ?_;intro w M;exact bU 9 (((Mem.aE 3 1 (cI .i64) M)).pick [0] aC)
  intro hb h;refine jL 4 28 h ?_ ?_
  ·intro hb h;refine dU 9 ?_;intro w M;exact bU 9 (((Mem.aE 3 1 (cI .i64) M)).pick [0] aC)
  intro hb h;refine dR 5 h ?_ ?_
  ·intro hb h;refine dU 3 ?_;intro w M;exact bU 9 (((Mem.aE 3 1 (cI .i64) M)).pick [0] aC)
  intro hb h;exact lJ 8 (IntKind.i64.wrap (i + 1)) (M.pick [0,1,2,3] aC)
 intro hb h;exact lS 3 (hk1 i) (M.pick [0,1,2,3] aC)
theorem zR {N : Nat} {phase x2 y : Int} {w0 : World} {r : Int × Int} (h : nK N phase x2 y = some r) :
  Calls Tryz.prog 116 #[I phase, I x2, I y] w0 fun e w' => ∃ v, e = .returned v ∧ v = .tuple #[I r.1, I r.2] ∧ Mem w0.heap.size w0 w' [] := by
 refine gE Tryz.func116 Tryz.ntmps116 ?_;intro M;unfold nK at h;refine jL 12 10 h ?_ ?_
 ·intro hb h;exact bU 22 (M.pick [] aC)
 intro hb h;refine jL 4 14 h ?_ ?_
 ·intro hb h;exact bU 18 (M.pick [] aC)
 intro hb h;refine jL 4 18 h ?_ ?_
 ·intro hb h;exact bU 14 (M.pick [] aC)
 intro hb h;refine dR 5 h ?_ ?_
 ·intro hb h;exact bU 8 (M.pick [] aC)
 intro hb h;obtain ⟨r2, dC, h⟩ := aB h;refine iC 9 (DN dC) ?_;intro w M;exact bU 5 (M.pick [] aC)
end
section
open Go.RowKit Go.Shelf
attribute [local go_sem] Oper.semAt_some
abbrev JA (W H : Int) (q : Se W H) : Array Value := #[.int .i64 q.1.1, .int .i64 q.1.2]
def ON (L : List Nat) (A B : World) : Prop := ∀ k ∈ L, k < A.heap.size → B.heap[k]? = A.heap[k]?
theorem JB (n : Nat) (hn : 1 ≤ n) (W H x y : Int) (A : Option Addr) (m c gp gx gy : Nat) (hW : W ≤ 64) (hH : H ≤ 64) (hx : 0 ≤ x ∧ x < W) (hy : 0 ≤ y ∧ y < H) (w : World)
  (bp : gK w gp 31 #[.int .i64 W, .int .i64 H, .slice A m c]) (bx : gK w gx 3 #[.int .i64 x]) (Ze : gK w gy 3 #[.int .i64 y]) :
  SeqStopsK Fence.wide n Tryz.prog 171 #[.pointer (some ⟨gy, 0, none⟩), .pointer (some ⟨gp, 0, none⟩), .pointer (some ⟨gx, 0, none⟩)] (JA W H) (ON [gp, gx, gy])
   (fun xs => xs.map (·.1) = tV W H x y) (fun _ => True) (tV W H x y).length w := fun l J Jx W0 hb0 hJ hJx hY h0 => by
 have ZQ : gK W0 gp 31 #[.int .i64 W, .int .i64 H, .slice A m c] := bp.below hb0 bp.lt;have bx0 : gK W0 gx 3 #[.int .i64 x] := bx.below hb0 bx.lt;have Zf : gK W0 gy 3 #[.int .i64 y] := Ze.below hb0 Ze.lt;refine callsIn_of_wp Tryz.func171 rfl trivial ?_ rfl;simp only [Tryz.ntmps171, List.size_toArray, List.length_cons, List.length_nil, Nat.reduceAdd, Nat.reduceSub, Array.replicate_succ, Array.replicate_zero, List.push_toArray, List.append_toArray, List.nil_append, List.cons_append];have cy0 : W0.cell? ⟨gy, 0, none⟩ = some (.int .i64 y) := Zf.c1.1;have m1 : IntKind.i64.wrap (y - 1) = y - 1 := IntWalk.i64_in _ (by omega);have m2 : IntKind.i64.wrap (x - 1) = x - 1 := IntWalk.i64_in _ (by omega);have m3 : IntKind.i64.wrap (y + 1) = y + 1 := IntWalk.i64_in _ (by omega);have m4 : IntKind.i64.wrap (x + 1) = x + 1 := IntWalk.i64_in _ (by omega);have hst : ∀ v : Int, v = max (y - 1) 0 → ∃ (pre : List (Se W H)) (k : Nat), pre.map (·.1) ++ P1 W H x y k v = tV W H x y ∧ y + 1 - v < k ∧ 0 ≤ v ∧ v ≤ 64 ∧ J pre W0 := fun v hv => ⟨[], 4, by subst hv; rfl, by omega, by omega, by omega, h0⟩
 clear hb0 bp bx Ze h0
 gi_wp2
 all_goals
  gi_loopw [5] (fun a wr => ∃ (v : Int) (pre : List (Se W H)) (k : Nat), a = .int .i64 v ∧ pre.map (·.1) ++ P1 W H x y k v = tV W H x y ∧ y + 1 - v < k ∧ 0 ≤ v ∧ v ≤ 64 ∧ J pre wr ∧
    gK wr gp 31 #[.int .i64 W, .int .i64 H, .slice A m c] ∧ gK wr gx 3 #[.int .i64 x] ∧ gK wr gy 3 #[.int .i64 y]) (fun a _ => 70 - (intOf a).toNat)
  case atStart =>
   obtain ⟨pre, k, h1, h2, h3, h4, h5⟩ := hst _ rfl;exact ⟨max (y - 1) 0, pre, k, congrArg (Value.int .i64) (by omega), h1, h2, h3, h4, h5, ZQ, bx0, Zf⟩
  case round =>
   obtain ⟨v, pre, k, rfl, h1, h2, h3, h4, hJs, Zg, bx1, Zh⟩ := hrel;have cy1 : wr.cell? ⟨gy, 0, none⟩ = some (.int .i64 y) := Zh.c1.1;have cx1 : wr.cell? ⟨gx, 0, none⟩ = some (.int .i64 x) := bx1.c1.1;obtain ⟨XU, XV, cp2⟩ := Zg.c3;have m5 : IntKind.i64.wrap (v + 1) = v + 1 := IntWalk.i64_in _ (by omega)
   by_cases hv : v ≤ y + 1 ∧ v < H
   ·obtain ⟨k, rfl⟩ : ∃ q, k = q + 1 := ⟨k - 1, by omega⟩
    rw [P1, if_pos hv] at h1;obtain ⟨hv1, hv2⟩ := hv;have W7 : ∃ (Gw : List (Se W H)) (j : Nat), Gw.map (·.1) ++ (Sd W x y v j (max (x - 1) 0) ++ P1 W H x y k (v + 1)) = tV W H x y ∧ x + 1 - max (x - 1) 0 < j ∧ J Gw wr := ⟨pre, 4, h1, by omega, hJs⟩
    clear h1 hJs hst cy0 ZQ bx0 Zf
    gi_wp2
    all_goals
     gi_loopw [6] (fun b wr2 => ∃ (u : Int) (Gw : List (Se W H)) (j : Nat), b = .int .i64 u ∧ Gw.map (·.1) ++ (Sd W x y v j u ++ P1 W H x y k (v + 1)) = tV W H x y ∧ x + 1 - u < j ∧ 0 ≤ u ∧ u ≤ 64 ∧ J Gw wr2 ∧
       gK wr2 gp 31 #[.int .i64 W, .int .i64 H, .slice A m c] ∧ gK wr2 gx 3 #[.int .i64 x] ∧ gK wr2 gy 3 #[.int .i64 y]) (fun b _ => 70 - (intOf b).toNat)
     case atStart =>
      obtain ⟨Gw, j, h5, h6, h7⟩ := W7;exact ⟨max (x - 1) 0, Gw, j, congrArg (Value.int .i64) (by omega), h5, h6, by omega, by omega, h7, Zg, bx1, Zh⟩
     case round =>
      clear W7 cy1 cx1 XU XV cp2 Zg bx1 Zh;obtain ⟨u, Gw, j, rfl, h5, h6, h7, h8, hJ2, ST, SU, SV⟩ := hrel;have ZR := SV.c1.1;have ZS := SU.c1.1;obtain ⟨XU, XV, cp2⟩ := ST.c3;have m6 : IntKind.i64.wrap (u + 1) = u + 1 := IntWalk.i64_in _ (by omega)
      by_cases hu : u ≤ x + 1 ∧ u < W
      ·obtain ⟨j, rfl⟩ : ∃ q, j = q + 1 := ⟨j - 1, by omega⟩
       rw [Sd, if_pos hu] at h5;obtain ⟨hu1, hu2⟩ := hu
       by_cases hne : u ≠ x ∨ v ≠ y
       ·rw [if_pos hne] at h5;have hlen : Gw.length < (tV W H x y).length := by rw [← h5]; simp
        obtain ⟨fn, tmps, assign, body, hyl, hR⟩ := hY Gw ⟨(u, v), h7, hu2, h3, hv2⟩ _ hJ2 hlen;dsimp only [JA] at hyl;have h5' : (Gw ++ [(⟨(u, v), h7, hu2, h3, hv2⟩ : Se W H)]).map (·.1) ++ (Sd W x y v j (u + 1) ++ P1 W H x y k (v + 1)) = tV W H x y := by rw [← h5]; simp
        clear h5 hJ2
        by_cases hux : u = x
        ·have hvy : ¬ v = y := by omega
         subst hux
         gi_wp2
         all_goals
          refine hR.mono ?_;rintro e W3 (⟨rfl, hJ3, hk3⟩ | ⟨rfl, hJx3⟩)
          ·have Zi : gK W3 gp 31 _ := (hk3 gp (by simp) ST.lt).trans ST;have Zj : gK W3 gx 3 _ := (hk3 gx (by simp) SU.lt).trans SU;have Zk : gK W3 gy 3 _ := (hk3 gy (by simp) SV.lt).trans SV;clear ZR ZS XU XV cp2 ST SU SV hk3
           gi_wp2
           refine ⟨⟨_, _, j, rfl, h5', by omega, by omega, by omega, hJ3, Zi, Zj, Zk⟩, by simp [intOf]; omega⟩
          ·gi_wp2
           refine bodyPost_ret (results_none rfl _ _ _) rfl ?_;exact ⟨⟨_, rfl⟩, .inr ⟨_, trivial, hJx3⟩⟩
        ·gi_wp2
         all_goals
          refine hR.mono ?_;rintro e W3 (⟨rfl, hJ3, hk3⟩ | ⟨rfl, hJx3⟩)
          ·have Zi : gK W3 gp 31 _ := (hk3 gp (by simp) ST.lt).trans ST;have Zj : gK W3 gx 3 _ := (hk3 gx (by simp) SU.lt).trans SU;have Zk : gK W3 gy 3 _ := (hk3 gy (by simp) SV.lt).trans SV;clear ZR ZS XU XV cp2 ST SU SV hk3
           gi_wp2
           refine ⟨⟨_, _, j, rfl, h5', by omega, by omega, by omega, hJ3, Zi, Zj, Zk⟩, by simp [intOf]; omega⟩
          ·gi_wp2
           refine bodyPost_ret (results_none rfl _ _ _) rfl ?_;exact ⟨⟨_, rfl⟩, .inr ⟨_, trivial, hJx3⟩⟩
       ·rw [if_neg hne] at h5;obtain ⟨rfl, rfl⟩ : u = x ∧ v = y := by omega
        gi_wp2
        all_goals
         refine ⟨fun _ h => (by cases h), ?_⟩
         gi_wp2
         refine ⟨⟨_, Gw, j, rfl, h5, by omega, by omega, by omega, hJ2, ST, SU, SV⟩, by simp [intOf]; omega⟩
      ·have hend : Gw.map (·.1) ++ P1 W H x y k (v + 1) = tV W H x y := by
        cases j with
        | zero => simpa [Sd] using h5
        | succ j => rw [Sd, if_neg hu] at h5; simpa using h5
       clear h5
       gi_wp2
       all_goals exact ⟨⟨_, Gw, k, rfl, hend, by omega, by omega, by omega, hJ2, ST, SU, SV⟩, by simp [intOf]; omega⟩
   ·have hend : pre.map (·.1) = tV W H x y := by
     cases k with
     | zero => simpa [P1] using h1
     | succ k => rw [P1, if_neg hv] at h1; simpa using h1
    clear h1
    gi_wp2
    all_goals
     go_end0
     exact ⟨⟨_, rfl⟩, .inl ⟨pre, hend, hJs⟩⟩
end
section
open Go.RowKit
section
variable {P : Program} {ops : Array Oper} {Q : Exit → Act → World → Prop} {a : Act} {w : World} {o : Oper} {lp n : Nat}
def Ix (ops : Array Oper) : Bool := ops.all fun o => match o.op with | .defer _ => false | _ => true
theorem W8 {row : String} {args : Array Value} {R : Value → World → Prop} (h : Rows P row args w R) : RowsIn (Fence.wide.inRound lp) n P row args w R :=
 fun c cs _ => let ⟨v, w', r, s⟩ := h c cs; ⟨v, w', r, stepsIn_wide.2 s⟩
theorem Vd (hnd : ∀ c, o.op ≠ .defer c) {nx nx' : Act → World → Prop} (hn : ∀ a w, nx a w → nx' a w) (h : o.wp P a w nx Q) : o.wpIn (Fence.wide.inRound lp) n P a w nx' Q := by
 refine ⟨fun f _ => trivial, ?_⟩;have hs : Oper.semAt (Fence.wide.inRound lp).round a.eval o = execOp a.eval o := Oper.semAt_some lp _ _ hnd;rw [hs];unfold Oper.wp at h
 generalize (execOp a.eval o).run P w = res at h
 have hd : ∀ k : Nat, (Fence.wide.inRound lp).depth.isSome = true → 1 ≤ k := fun _ h => by simp [Fence.wide] at h
 match res, h with
 | .ok (.value v) w', h => exact hn _ _ h
 | .ok .skip w', h => exact hn _ _ h
 | .ok (.defer d) w', h => exact hn _ _ h
 | .ok (.enter f args) w', h =>
  refine ⟨hd _, CallsIn.inRound lp (callsIn_wide.2 (Calls.mono h ?_))⟩;intro e w'' he;cases e with
  | returned v => exact hn _ _ he
  | panicked c => exact he
  | outgrown => exact he
 | .ok (.row row args) w', h =>
  refine ⟨hd _, ?_⟩;have := W8 (lp := lp) (n := n - 1) h;exact this.mono fun v w'' hv => hn _ _ hv
 | .halt (.panic v) w', h => exact h
 | .ok (.round ..) w', h => exact h.elim
theorem Gx (hnd : ∀ (i : Nat) (o : Oper), ops[i]? = some o → ∀ c, o.op ≠ .defer c) (hq : ¬ LetsOut Q) : ∀ (l : List Nat) (a : Act) (w : World), wpOps P ops Q l a w → wpOpsIn (Fence.wide.inRound lp) n P ops Q l a w
 | [], a, w, h => h
 | i :: rest, a, w, h => by
  unfold wpOps at h;unfold wpOpsIn;cases ho : ops[i]? with
  | none => simp only [ho] at h ⊢; exact Gx hnd hq rest a w h
  | some o =>
   simp only [ho] at h ⊢
   by_cases hw : Region.wanted o (yielded ops a.tmps) = true
   ·rw [if_pos hw] at h ⊢
    rcases h with h | ⟨_, h⟩
    ·exact Vd (hnd i o ho) (fun a w h => Gx hnd hq rest a w h) h
    ·exact absurd h hq
   ·rw [if_neg hw] at h ⊢;exact ⟨fun f _ => trivial, Gx hnd hq rest _ w h⟩
theorem Gy {ops : Array Oper} (h : Ix ops = true) (i : Nat) (o : Oper) (ho : ops[i]? = some o) : ∀ c, o.op ≠ .defer c := by
 intro c e;unfold Ix at h;obtain ⟨hi, he⟩ := Array.getElem?_eq_some_iff.1 ho;have := Array.all_eq_true.1 h i hi;rw [he, e] at this;cases this
theorem Ho {id : Nat} {ol : List Oper} (hnd : Ix ol.toArray = true) (hq : ¬ LetsOut Q) (h : wpList P ol.toArray Q ol a w) : (Code.region id ol.toArray false).wpIn (Fence.wide.inRound lp) n P Q a w := by
 refine wpIn_region (Gx (Gy hnd) hq _ a w ?_);have := wpOps_eq_wpList (P := P) (ops := ol.toArray) (Q := Q) ol 0 (by simp);rw [List.range_eq_range', show ol.toArray.size = ol.length by simp, this];exact h
theorem Lh {id : Nat} {l : List Oper} (S : World → Prop) (f : List Nat) (hm : P.follows .mixedOrders = true) (hok : Lt l.toArray (lN f) (gZ f) = true) (hnd : Ix l.toArray = true) (hq : ¬ LetsOut Q)
  (hS : S w.drew) (h : mW P l.toArray S (Q .normal) (marked f l) a w.drew) : (Code.region id l.toArray true).wpIn (Fence.wide.inRound lp) n P Q a w := by
 refine wpIn_region_draw fun t => Gx (Gy hnd) hq _ a _ ?_
 simp only [Region.schedule, hm, Bool.true_or, if_true];refine wpAny_sound l.toArray.size t _ a _ ?_;have h2 := Fr (ops := l.toArray) (lN f) (gZ f) (marked f l) 0 a w.drew (fun j x hj => by simpa using Fs f l j x hj) h;rw [Ft] at h2;have h3 : G7 P l.toArray S (lN f) (gZ f) (Q .normal) (List.range l.toArray.size) a w.drew := by simpa [List.range_eq_range'] using h2
 have Fq : iP l.toArray (Array.replicate l.toArray.size false) = List.range l.toArray.size := by
  unfold iP;refine List.filter_eq_self.2 fun i hi => ?_
  have := List.mem_range.1 hi
  simp at this
  simp [this]
 refine Hv hok l.toArray.size (Array.replicate l.toArray.size false) a _ (by simp) ?_ (by rw [Fq]; simp) (fun _ _ _ => hS) (by rw [Fq]; exact h3);intro i hi;rw [sM] at hi;cases hi
theorem Ij {α : Type} {C : qQ α} {W0 W : World} {L : List jM} {A : Option Addr} {xs : List α} (hb : Below W0.heap.size W0 W) (h : SL W0 C A xs) : ∀ w, Mem W0.heap.size W w L → SL w C A xs := fun _ M => h.below (hb.trans M.low)
theorem Mem.back {b : Nat} {W V w : World} {L L' : List jM} (M : Mem b W V L) (M' : Mem b V w L') : Mem b W w L' := ⟨M.low.trans M'.low, M.MC.trans M'.MC, M.bs, M'.has, M'.up, M'.one⟩
theorem SW (o : Obj) : R5 o = o.isCells := by cases o <;> rfl
theorem Mem.others {b : Nat} {W w : World} {L : List jM} (M : Mem b W w L) : KeepsOthers W w := ⟨M.low.size, fun k o hk ho => M.MC k o hk (by rw [SW]; exact ho)⟩
theorem Iy {L L' : List jM} (hf : L'.map jM.foot = L.map jM.foot) {i : Nat} {e : jM} (h : L'[i]? = some e) : ∃ e0, L[i]? = some e0 ∧ e0.foot = e.foot := by
 have h1 : (L'.map jM.foot)[i]? = some e.foot := by rw [List.getElem?_map, h]; rfl
 rw [hf, List.getElem?_map, Option.map_eq_some_iff] at h1;exact h1
theorem Mem.round {b : Nat} {W w V : World} {L L' : List jM} (M : Mem b W w L) (hf : L'.map jM.foot = L.map jM.foot) (hb : Below b W V) (has : ∀ (i : Nat) (e : jM), L'[i]? = some e → jM.holds V e) : Mem b V V L' :=
  ⟨Below.refl _ _, vJ.refl _, Nat.le_trans M.bs hb.size, has,
   fun i e g h hg => by obtain ⟨e0, h0, h1⟩ := Iy hf h; exact M.up i e0 g h0 (h1.trans hg),
   fun i j e e' g h h' hg hg' => by
     obtain ⟨e0, h0, h1⟩ := Iy hf h
     obtain ⟨e0', h0', h1'⟩ := Iy hf h'
     exact M.one i j e0 e0' g h0 h0' (h1.trans hg) (h1'.trans hg')⟩
theorem Ph {β : Type} {b B : Nat} {W w : World} (f : β → List jM) {L : List jM} (M : Mem b W w L) (hB : w.heap.size = B) (hf : ∀ s, (f s).map jM.foot = L.map jM.foot) :
  OwnFrom B (fun (s : β) V => Below b W V ∧ ∀ (i : Nat) (e : jM), (f s)[i]? = some e → jM.holds V e) := fun s V V' row hs hg hr => by
 obtain ⟨h1, h2⟩ := hs;refine ⟨h1.grown hg (Nat.le_trans M.bs h1.size) (fun k hk => by have := (hr k hk).1; have := M.sz; omega), fun i e h => jM.keep (h2 i e h) fun g hg' => hg.block g ?_ fun e2 => ?_⟩
 ·exact jM.lt (h2 i e h) hg'
 ·have h3 := (hr g e2.symm).1;obtain ⟨e0, h0, h1'⟩ := Iy (hf s) h;have := M.Fw i e0 g h0 (h1'.trans hg')
  omega
theorem Kd.ps2 {D : List Deferred} {N : Nat} {l : List (Nat × Value)} {i j : Nat} {u v : Value} (K : Kd D a N l) (hi : Nat.blt i N = true) (hj : Nat.blt j N = true) :
  Kn { tmps := (#[i, j].zip #[u, v]).foldl (fun t (p, v) => t.setIfInBounds p v) a.tmps, defers := [] } N ((j, v) :: (i, u) :: l) := by
 have h1 := (K.put (d := some i) (by simpa [JP] using hi) u).put (d := some j) (by simpa [JP] using hj) v;have e : (#[i, j].zip #[u, v]).foldl (fun t (p, v) => t.setIfInBounds p v) a.tmps = ((a.put (some i) u).put (some j) v).tmps := by simp [Act.put]
 exact ⟨rfl, by show Array.size _ = N; rw [e]; exact h1.size, fun s v hs => by show Array.getD _ s undef = v; rw [e]; exact h1.get s v hs⟩
theorem Kd.mark {N : Nat} {l : List (Nat × Value)} (K : Kn a N l) (d : Deferred) : Kd [d] { a with defers := d :: a.defers } N l := ⟨by show d :: a.defers = [d]; rw [K.defs], K.size, K.get⟩
theorem TB {ol : List Oper} {x : Operand} (ho : o.op = .assign x) (hg : o.guard = none) (h : wpList P ops Q ol (a.put o.dst (a.eval x)) w) : wpList P ops Q (o :: ol) a w := by
 have hw : Region.wanted o (yielded ops a.tmps) = true := by simp [Region.wanted, hg]
 simp only [wpList, hw, if_true];refine .inl ?_;show o.upon P a _ Q ((execOp a.eval o).run P w);have : (execOp a.eval o).run P w = .ok (.value (a.eval x)) w := by unfold execOp; simp [ho]
 rw [this];exact h
theorem Rk {fn : Func} {Rp : Ending → World → Prop} {D N : Nat} {l : List (Nat × Value)} {r1 : ResultVar} {v1 : Value} (K : Kd [{ target := .collected D, args := #[] }] a N l) (hK : w.heap[D]? = some (.deferred (some []))) (hr : fn.results = #[r1])
  (h1 : u5 P a (w.putObj D (.deferred none)) r1 v1) (h : Rp (.returned v1) (w.putObj D (.deferred none))) : bodyPostM Fence.wide n P fn Rp .ret a w := by
 show LeavesInM Fence.wide n P fn a.tmps Rp a.defers .returning w;rw [K.defs];refine ⟨by simp, .inl ⟨_, _, rfl, run_takeDeferred hK, ?_⟩⟩;refine ⟨v1, ?_, h⟩;unfold u5 at h1;rw [rV, hr]; simp [h1]
theorem Mem.Ve {b : Nat} {W w : World} {L : List jM} (M : Mem b W w L) {D : Nat} (hb : b ≤ D) (hK : w.heap[D]? = some (.deferred (some []))) {i g : Nat} {t : TypeId} {cs : List Value} (h : L[i]? = some (.blk g t cs)) : gK (w.putObj D (.deferred none)) g t cs.toArray := by
 have hne : g ≠ D := fun e => by
  have h1 : w.heap[g]? = some (.cells cs.toArray t) := M.aK h;rw [e, hK] at h1; cases h1
 exact (World.putObj_heap_other hne).trans (M.aK h)
theorem FQ {b : Nat} {W w : World} (h : Below b W w) {D : Nat} (hb : b ≤ D) (o : Obj) : Below b W (w.putObj D o) :=
 ⟨h.os, h.tape, h.output, by simpa using h.size, fun k hk => (World.putObj_heap_other (by omega)).trans (h.block k hk)⟩
theorem Mem.fin {W w : World} (h : Below W.heap.size W w) : Mem W.heap.size W w [] := ⟨h, vJ.below h, Nat.le_refl _, fun i e he => by simp at he, fun i e g he => by simp at he, fun i j e e' g he => by simp at he⟩
theorem Mj {fn : Func} {code : Code} {fid : FuncId} {args : Array Value} {N : Nat} {Rp : Ending → World → Prop} (hf : P.funcs[fid]? = some fn) (hb : fn.body = some code) (hN : fn.ntmps = N) (hs : Nat.ble args.size N = true)
  (h : ∀ a, Kn a N (F6 0 args.toList) → code.wp P (bodyPostM Fence.wide 3 P fn Rp) a w) : Calls P fid args w Rp := by
 refine callsIn_wide.1 (callsIn_of_wp_marks (n := 3) hf hb trivial (wpIn_wide.2 ?_) rfl);rw [hN];exact h _ (Kd.start args N hs)
theorem NP {f : FuncId} (hf : gM P f = true) (args : Array Value) (w : World) : (callFunc f args).run P w = .ok (.enter f args) w := by
 unfold gM at hf
 split at hf
 ·rename_i fn hfn
  simp only [Bool.and_eq_true, bne_iff_ne, ne_eq] at hf;obtain ⟨b, hb⟩ := Option.isSome_iff_exists.1 hf.1
  simp [callFunc, hfn, hb, hf.2]
 ·cases hf
theorem Mk {L : List Nat} {A B C : World} (h1 : ON L A B) (h2 : ON L B C) : ON L A C := fun k hk hlt => by
 have e := h1 k hk hlt
 have hB : k < B.heap.size := by
  have hA : A.heap[k]? = some A.heap[k] := Array.getElem?_eq_getElem hlt;rw [hA] at e;exact (Array.getElem?_eq_some_iff.1 e).1
 exact (h2 k hk hB).trans e
theorem Kd.Zl {D : List Deferred} {N : Nat} {l : List (Nat × Value)} {x1 x2 : Operand} {d1 d2 : Nat} {v1 v2 : Value} (K : Kd D a N l) (h1 : gC l x1 = some v1) (hd1 : Nat.blt d1 N = true) (h2 : gC ((d1, v1) :: l) x2 = some v2) (hd2 : Nat.blt d2 N = true) :
  Kd D ((a.put (some d1) (a.eval x1)).put (some d2) ((a.put (some d1) (a.eval x1)).eval x2)) N ((d2, v2) :: (d1, v1) :: l) := by
 have K1 := K.put (d := some d1) (by simpa [JP] using hd1) v1;rw [K.ev h1];have K2 := K1.put (d := some d2) (by simpa [JP] using hd2) v2;have e : (a.put (some d1) v1).eval x2 = v2 := K1.ev h2;rw [e];exact K2
end
theorem Li : ∀ xs : List Int, (cI .i64).all xs = VI xs
 | [] => rfl
 | x :: xs => by
  have := Li xs;simp only [qQ.all, VI, List.flatMap_cons, List.map_cons] at this ⊢;rw [this]; rfl
theorem Ru {w : World} {A : Option Addr} {xs : List Int} (h : SL w (cI .i64) A xs) : RI w 0 A xs.length xs := by
 refine ⟨by simp [VI], fun hn => ?_⟩;obtain ⟨b, o, hA, hc⟩ := h hn;have hall := Li xs;rw [hall] at hc;refine ⟨b, o, hA, Nat.zero_le _, ?_, hc⟩;have h0 : (VI xs)[0]? = some (.int .i64 xs[0]) := by simp [VI, List.getElem?_eq_getElem hn]
 exact block_lt_of_cell (hc 0 _ h0)
theorem Rv {w : World} {A : Option Addr} {l : List (Int × Int)} (h : SL w eP A l) : RS w 0 A l.length l := by
 refine ⟨rfl, fun hn => ?_⟩;obtain ⟨b, o, hA, hc⟩ := h hn
 have key : ∀ (k : Nat) x y, l[k]? = some (x, y) → (eP.all l)[k * 2]? = some (.int .i64 x) ∧ (eP.all l)[k * 2 + 1]? = some (.int .i64 y) := fun k x y hk => by
  exact ⟨by simpa [eP] using qQ.vL eP l k 0 (x, y) _ hk rfl, qQ.vL eP l k 1 (x, y) _ hk rfl⟩
 have h0 := (key 0 l[0].1 l[0].2 (List.getElem?_eq_getElem hn)).1;refine ⟨b, o, hA, Nat.zero_le _, block_lt_of_cell (hc _ _ h0), fun k x y hk => ?_⟩;obtain ⟨h1, h2⟩ := key k x y hk;exact ⟨hc _ _ h1, by have := hc _ _ h2; rwa [← Nat.add_assoc] at this⟩
theorem Mem.Zr {w w' : World} {A : Option Addr} {n c : Nat} {xs : List Int} (hb : Below w.heap.size w w') (h : OI w' w.heap.size A n c xs) (hn : n ≤ maxLen) : Mem w.heap.size w w' [.row 3 1 A xs.length c ((cI .i64).all xs)] := by
 obtain ⟨g, rfl, rfl, hg, hl, hB⟩ := h;have hall := Li xs
 have M1 : Mem w.heap.size w w' [.blk g 3 (VI xs)] := by
  refine (Mem.Sc hb).cons hB fun g' hg' => ?_
  simp [jM.foot] at hg'
  subst hg';exact ⟨hg, fun i e h => by simp at h⟩
 exact M1.iF 0 rfl (cI .i64) xs hall hl rfl hn
theorem qR (N : Nat) (iR kL : Int) (gL : List Int) (fC : Option Addr) (fD : Nat) (l : List (Int × Int)) (W9 : Option Addr) (Xa : Nat) (w0 : World) (k6 : SL w0 (cI .i64) fC gL) (qI : gL.length ≤ fD) (Zs : SL w0 eP W9 l) (C_l : l.length ≤ Xa) (r : Int × Int × List Int × Int) (h : nI N iR kL gL l = some r) :
  Calls Tryz.prog 36 #[.agg #[.int .i64 iR, .int .i64 kL, .slice fC gL.length fD], .slice W9 l.length Xa] w0 fun e w' => ∃ v, e = .returned v ∧ ∃ A2 c2, v = .tuple #[.agg #[.int .i64 r.1, .int .i64 r.2.1, .slice A2 r.2.2.1.length c2], .int .i64 r.2.2.2] ∧ Mem w0.heap.size w0 w' [.row 3 1 A2 r.2.2.1.length c2 ((cI .i64).all r.2.2.1)] := by
 unfold nI at h
 split at h
 ·cases h
 rename_i hn
 have hn' : gL.length ≤ maxLen := by simp only [maxLen]; omega
 have no : ∀ {w' : World} (k : Int), Below w0.heap.size w0 w' → ∃ v, Ending.returned (.tuple #[Gz, .int .i64 k]) = Ending.returned v ∧ ∃ A2 c2, v = .tuple #[.agg #[.int .i64 (0 : Int), .int .i64 (0 : Int), .slice A2 ([] : List Int).length c2], .int .i64 k] ∧ Mem w0.heap.size w0 w' [.row 3 1 A2 ([] : List Int).length c2 ((cI .i64).all [])] :=
  fun k hb => ⟨_, rfl, none, 0, rfl, Mem.aE 3 1 (cI .i64) (Mem.Sc hb)⟩
 split at h
 ·rename_i hf
  cases h;refine (Mo iR kL fC W9 gL.length fD l.length Xa gL l w0 (Ru k6) (Rv Zs) hn' hf).mono ?_;rintro e w' ⟨rfl, hb⟩;exact no 1 hb
 rename_i hf
 have hf' : mG iR kL gL = true := by simpa using hf
 split at h
 ·rename_i hm
  cases h;refine (Mp iR kL fC W9 gL.length fD l.length Xa gL l w0 (Ru k6) (Rv Zs) hn' hf' hm).mono ?_;rintro e w' ⟨rfl, hb⟩;exact no 2 hb
 rename_i hm
 obtain ⟨⟨h1, h2, h3, h4⟩, _, _⟩ := Cg.1 hf';obtain ⟨m, rfl⟩ : ∃ m : Nat, iR = m := ⟨iR.toNat, by omega⟩
 have hr := Mq kL fC W9 gL.length fD l.length Xa gL l w0 m (Ru k6) (Rv Zs) hn' hf' (by omega);refine hr.mono ?_;intro e w' hp;unfold pR at hp
 split at h
 ·rename_i ha
  cases h;rw [if_neg (by simp [ha])] at hp;obtain ⟨rfl, hb⟩ := hp;exact no 3 hb
 ·rename_i ha
  cases h;rw [if_pos (by simpa using ha)] at hp;obtain ⟨A', c', rfl, ⟨_, ho⟩, hb⟩ := hp;have hl : ((List.range gL.length).map (EI (m : Int) kL l gL)).length = gL.length := by simp
  refine ⟨_, rfl, A', c', by rw [hl], Mem.Zr hb ho hn'⟩
end
end Go.Proofs.YtpmnfhifmmfglacGreatDoor
