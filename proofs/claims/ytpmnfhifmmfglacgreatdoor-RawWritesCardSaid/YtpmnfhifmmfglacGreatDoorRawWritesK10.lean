/- Texts of the claim RawWrites, joined and made small by a program. -/
import Derived.LoopIn
import Derived.LoopNIn
import Derived.OwnWalkIn
import Derived.RangeFuncBound
import Derived.RangeFuncCalls
import Derived.RangeFuncFrom
import Derived.RangeFuncLeaves
import Derived.RangeFuncNested
import Derived.Recover
import Derived.Shelf.Abstract
import Derived.Shelf.RegionOpen
import Derived.TacticsInMore
import Derived.Test.YtpmnfhifmmfglacGreatDoorRows
import Derived.WalkKit
import Derived.Test.YtpmnfhifmmfglacGreatDoorRawWritesK1
import Derived.Test.YtpmnfhifmmfglacGreatDoorRawWritesK3
import Derived.Test.YtpmnfhifmmfglacGreatDoorRawWritesK4
import Derived.Test.YtpmnfhifmmfglacGreatDoorRawWritesK5
import Derived.Test.YtpmnfhifmmfglacGreatDoorRawWritesK8
import Derived.Test.YtpmnfhifmmfglacGreatDoorRawWritesK9
set_option linter.unusedVariables false
set_option linter.unusedSimpArgs false
set_option linter.unusedSectionVars false
set_option maxRecDepth 100000
set_option maxHeartbeats 8000000
namespace Go.Proofs.YtpmnfhifmmfglacGreatDoor
section
open Go.RowKit
theorem N4 {N : Nat} {C7 Dx : Int} {uQ : List Int} {xL : Option Addr} {xM : Nat} {w0 : World} {r : Bool} (h : EA N C7 Dx uQ = some r) (Cm : SL w0 (cI .i64) xL uQ) (Lv : uQ.length ≤ xM) :
  Calls Tryz.prog 122 #[.agg #[I C7, I Dx, .slice xL uQ.length xM]] w0 fun e w' => ∃ v, e = .returned v ∧ v = .bool r ∧ Mem w0.heap.size w0 w' [] := by
 refine gE Tryz.func122 Tryz.ntmps122 ?_;intro M;unfold EA at h;refine u3 2 ?_;intro Pz w M;refine oT 10 8 h ?_ ?_
 ·intro hb h;exact cW 35 (M.pick [] aE)
 intro hb h;refine oT 5 13 h ?_ ?_
 ·intro hb h;exact cW 30 (M.pick [] aE)
 intro hb h;refine oT 5 18 h ?_ ?_
 ·intro hb h;exact cW 25 (M.pick [] aE)
 intro hb h;refine oT 5 23 h ?_ ?_
 ·intro hb h;exact cW 20 (M.pick [] aE)
 intro hb h;refine fJ 12 h ?_ ?_
 ·intro hb h;exact cW 7 (M.pick [] aE)
 intro hb h;refine u6 12 0 (fun (i : Int) a w => Kn a 48 [(35, .slice xL uQ.length xM), (36, I (uQ.length : Int)), (37, I i)] ∧ Mem w0.heap.size w0 w []) M.nQ ?_ ?_
 ·clear M h;rintro i2 a w ⟨K, M⟩ h;try dsimp only at h
  revert a;exact cW 8 (M.pick [] aE)
 clear M h;rintro kk fuel i a w hk1 ⟨K, M⟩ h;unfold Ce at h;revert a;refine fJ 6 h ?_ ?_
 ·intro hb h;obtain ⟨e2, mP, h⟩ := aB h;refine cC 6 ?_;refine dI (fun _ K => jS rfl fU K rfl rfl (eG Cm) mP) M ?_;refine dI (fun _ K => fK rfl nO K rfl rfl (eG Cm) mP rfl) M ?_;refine oT 8 43 h ?_ ?_
  ·intro hb h;exact cW 17 (M.pick [] aE)
  intro hb h;refine fJ 5 h ?_ ?_
  ·intro hb h;exact cW 11 (M.pick [] aE)
  intro hb h;exact qK 8 (IntKind.i64.wrap (i + 1)) M.nQ
 intro hb h;exact rD 3 (hk1 i) M.nQ
theorem zR {N : Nat} {p7 qS : Int} {xS : List Int} {yI : Option Addr} {yJ : Nat} {o p2 : Int} {w0 : World} {r : Int} (h : pE N p7 qS xS o p2 = some r) (sJ : SL w0 (cI .i64) yI xS) (AE : xS.length ≤ yJ) :
  Calls Tryz.prog 124 #[.agg #[I p7, I qS, .slice yI xS.length yJ], I o, I p2] w0 fun e w' => ∃ v, e = .returned v ∧ v = I r ∧ Mem w0.heap.size w0 w' [] := by
 refine gE Tryz.func124 Tryz.ntmps124 ?_;intro M;unfold pE at h;refine u3 2 ?_;intro gF w M;refine Su 4 ?_;replace M := M.drew;obtain ⟨_, h0, h⟩ := aB h;have h0 := xQ h0;refine cC 3 ?_;refine nX (fun _ K => GY rfl K rfl rfl h0) ?_;obtain ⟨_, h0, h⟩ := aB h;have h0 := xQ h0;refine cC 3 ?_;refine nX (fun _ K => vA rfl K rfl rfl h0) ?_;refine fJ 13 h ?_ ?_
 ·intro hb h;exact cW 8 (M.pick [] aE)
 intro hb h;refine fJ 7 h ?_ ?_
 ·intro hb h;obtain ⟨e, H5, h⟩ := aB h;refine cC 6 ?_;refine dI (fun _ K => jS rfl fU K rfl rfl (eG sJ) H5) M ?_;refine dI (fun _ K => fK rfl nO K rfl rfl (eG sJ) H5 rfl) M ?_;exact cW 6 (M.pick [] aE)
 intro hb h;refine fJ 7 h ?_ ?_
 ·intro hb h;obtain ⟨e2, mP, h⟩ := aB h;refine cC 8 ?_;refine dI (fun _ K => jS rfl fU K rfl rfl (eG sJ) mP) M ?_;refine dI (fun _ K => fK rfl nO K rfl rfl (eG sJ) mP rfl) M ?_;exact cW 6 (M.pick [] aE)
 intro hb h;refine Su 4 ?_;replace M := M.drew;obtain ⟨e3, vZ, h⟩ := aB h;refine cC 4 ?_;refine nX (fun _ K => gX rfl fU K rfl rfl ((eG sJ) _ M) vZ) ?_;refine nX (fun _ K => fK rfl nO K rfl rfl (eG sJ) vZ rfl) ?_;obtain ⟨e4, wT, h⟩ := aB h;refine cC 6 ?_;refine nX (fun _ K => gX rfl fU K rfl rfl ((eG sJ) _ M) wT) ?_;refine nX (fun _ K => fK rfl nO K rfl rfl (eG sJ) wT rfl) ?_;obtain ⟨e5, Df, h⟩ := aB h;refine cC 7 ?_;refine nX (fun _ K => gX rfl fU K rfl rfl ((eG sJ) _ M) Df) ?_;refine nX (fun _ K => fK rfl nO K rfl rfl (eG sJ) Df rfl) ?_;refine cC 19 ?_;refine dI (fun _ K => rR rfl K rfl rfl aE) M ?_;refine cC 5 ?_;refine dI (fun _ K => rR rfl K rfl rfl aE) M ?_;refine cC 4 ?_;refine dI (fun _ K => rR rfl K rfl rfl aE) M ?_;refine dI (fun _ K => eX rfl K (vs := [(0, I 0), (1, I e3), (2, I e4), (3, I e5), (4, I (IntKind.i64.wrap ((IntKind.i64.wrap (e3 + e4)) - e5))), (5, I (IntKind.i64.wrap (e3 + (dP .i64 (IntKind.i64.wrap (e4 - e5)) 1)))), (6, I (IntKind.i64.wrap (e4 + (dP .i64 (IntKind.i64.wrap (e3 - e5)) 1)))), (7, I (dP .i64 (IntKind.i64.wrap (e3 + e4)) 1))]) (cs := [I 0, I e3, I e4, I e5, I (IntKind.i64.wrap ((IntKind.i64.wrap (e3 + e4)) - e5)), I (IntKind.i64.wrap (e3 + (dP .i64 (IntKind.i64.wrap (e4 - e5)) 1))), I (IntKind.i64.wrap (e4 + (dP .i64 (IntKind.i64.wrap (e3 - e5)) 1))), I (dP .i64 (IntKind.i64.wrap (e3 + e4)) 1)]) rfl bE) M ?_;obtain ⟨e6, Cn, h⟩ := aB h;refine cC 1 ?_;refine dI (fun _ K => Yh (C := (cI .i64)) (es := [0, e3, e4, e5, IntKind.i64.wrap ((IntKind.i64.wrap (e3 + e4)) - e5), IntKind.i64.wrap (e3 + (dP .i64 (IntKind.i64.wrap (e4 - e5)) 1)), IntKind.i64.wrap (e4 + (dP .i64 (IntKind.i64.wrap (e3 - e5)) 1)), dP .i64 (IntKind.i64.wrap (e3 + e4)) 1]) rfl aBZ nO K rfl rfl rfl Cn rfl) M ?_;exact cW 4 (M.pick [] aE)
theorem MB {N : Nat} {p7 qS : Int} {xS : List Int} {yI : Option Addr} {yJ : Nat} {o : Int} {p2 : List Int} {UL : Option Addr} {UM : Nat} {w0 : World} {r : List UInt8 × Int} (h : DG N p7 qS xS o p2 = some r) (sJ : SL w0 (cI .i64) yI xS) (AE : xS.length ≤ yJ) (WA : SL w0 (cI .i64) UL p2) (WB : p2.length ≤ UM) :
  Calls Tryz.prog 53 #[.agg #[I p7, I qS, .slice yI xS.length yJ], I o, .slice UL p2.length UM] w0 fun e w' => ∃ v, e = .returned v ∧ v = .tuple #[.string (bs r.1), I r.2] ∧ Mem w0.heap.size w0 w' [] := by
 refine gE Tryz.func53 Tryz.ntmps53 ?_;intro M;unfold DG at h;refine u3 2 ?_;intro gF w M;obtain ⟨r2, gR, h⟩ := aB h;refine mC 8 (N4 gR ((eG sJ) _ M) AE) ?_;intro w M;refine fJ 3 h ?_ ?_
 ·intro hb h;exact iA 8 (M.pick [] aE)
 intro hb h;refine oT 8 24 h ?_ ?_
 ·intro hb h;exact iA 14 (M.pick [] aE)
 intro hb h;refine fJ 5 h ?_ ?_
 ·intro hb h;exact iA 8 (M.pick [] aE)
 intro hb h;obtain ⟨r3, lU, h⟩ := aB h;refine mC 5 (GC lU ((eG WA) _ M) WB) ?_;intro A c w M;refine fJ 14 h ?_ ?_
 ·intro hb h;exact iA 9 (M.pick [] aE)
 intro hb h;refine cC 4 ?_;intro a K;refine jR K (pM rfl (show nR Tryz.prog 148 = some [.pointer none, .slice none 0 0] by kernel_rfl) M) ?_;have M0 := M; clear K M; rintro _ a w ⟨dO, rfl, M⟩ K;replace M := Mem.W3 5 M;clear M0;revert a;refine u6 12 0 (fun (⟨l2, i⟩ : List UInt8 × Int) a w => ∃ (A2 : Option Addr) (c2 : Nat), Kn a 106 [(1, I o), (3, .pointer (some ⟨gF, 0, none⟩)), (8, .slice A r3.1.length c), (10, .pointer (some ⟨dO, 0, none⟩)), (37, .slice yI xS.length yJ), (38, I (xS.length : Int)), (39, I i)] ∧ Mem w0.heap.size w0 w [.row 5 1 A2 l2.length c2 ((cI .u8).all (sN l2)), .GV dO 148 A2 l2.length c2, .row 9 1 A r3.1.length c (cS.all r3.1), .blk gF 31 [I p7, I qS, .slice yI xS.length yJ]]) (M.pick [0,1,2,3] aE) ?_ ?_
 ·clear M h;rintro ⟨l3, i2⟩ a w ⟨Sv, c15, K, M⟩ h;try dsimp only at h
  revert a;refine cC 4 ?_;intro a K;refine jR K (p8 (vs := [.pointer (some ⟨dO, 0, none⟩)]) (cap := []) rfl Uo K rfl rfl (Gy (show Mem _ _ _ [.GV dO 148 Sv l3.length c15, .row 5 1 Sv l3.length c15 ((cI .u8).all (sN l3)), .row 9 1 A r3.1.length c (cS.all r3.1), .blk gF 31 [I p7, I qS, .slice yI xS.length yJ]] from M.pick [1,0,2,3] aE))) ?_;clear K M; rintro _ a w ⟨rfl, M⟩ K;obtain ⟨CP, EP, h⟩ := aB h;revert a;refine mC 0 (Gz EP) ?_;intro w M;exact iA 15 (M.pick [] aE)
 clear M h;rintro kk fuel ⟨l2, i⟩ a w hk1 ⟨A2, c2, K, M⟩ h;unfold mI at h;revert a;refine fJ 6 h ?_ ?_
 ·intro hb h;obtain ⟨e6, Cn, h⟩ := aB h;refine cC 7 ?_;refine dI (fun _ K => jS rfl fU K rfl rfl (eG sJ) Cn) M ?_;refine dI (fun _ K => fK rfl nO K rfl rfl (eG sJ) Cn rfl) M ?_;obtain ⟨Eo, AF, h⟩ := aB h;refine mC 10 (zR AF ((eG sJ) _ M) AE) ?_;intro w M;obtain ⟨x6, hx, h⟩ := eF h;refine o8 3 hx ?_;refine fJ 9 h ?_ ?_
  ·intro hb h;obtain ⟨x7, hx, h⟩ := eF h;refine o8 3 hx ?_;refine cC 6 ?_;refine dI (fun _ K => OR rfl K rfl) M ?_;obtain ⟨vG, EQ, h⟩ := aB h;refine mC 2 (D7 EQ) ?_;intro w M;refine oT 11 66 h ?_ ?_
   ·intro hb h;exact iA 22 (M.pick [] aE)
   intro hb h;obtain ⟨e7, Hr, h⟩ := aB h;refine cC 2 ?_;refine dI (fun _ K => jS rfl xI K rfl rfl (iV (C := cS) 2 rfl rfl) Hr) M ?_;refine dI (fun _ K => fK rfl Hn K rfl rfl (iV (C := cS) 2 rfl rfl) Hr rfl) M ?_;refine dI (fun _ K => DS rfl K rfl rfl) M ?_;refine fJ 3 h ?_ ?_
   ·intro hb h;exact iA 13 (M.pick [] aE)
   intro hb h;obtain ⟨e8, ER, h⟩ := aB h;refine cC 6 ?_;refine dI (fun _ K => jS rfl xI K rfl rfl (iV (C := cS) 2 rfl rfl) ER) M ?_;refine dI (fun _ K => fK rfl Hn K rfl rfl (iV (C := cS) 2 rfl rfl) ER rfl) M ?_;obtain ⟨b7, Y9, h⟩ := aB h;intro a K;refine jR K (p8 (vs := [.pointer (some ⟨dO, 0, none⟩), .string (bs e8)]) (cap := []) rfl H0 K rfl rfl (vY (show Mem _ _ _ [.GV dO 148 A2 l2.length c2, .row 5 1 A2 l2.length c2 ((cI .u8).all (sN l2)), .row 9 1 A r3.1.length c (cS.all r3.1), .blk gF 31 [I p7, I qS, .slice yI xS.length yJ]] from M.pick [1,0,2,3] aE) Y9)) ?_;clear K M; rintro _ a w ⟨A9, c9, M⟩ K;revert a;refine oT 7 80 h ?_ ?_
   ·intro hb h;refine fJ 5 h ?_ ?_
    ·intro hb h;refine fJ 7 h ?_ ?_
     ·intro hb h;obtain ⟨_, h0, h⟩ := aB h;have h0 := mS h0;refine cC 3 ?_;refine dI (fun _ K => qC rfl K rfl rfl h0) M ?_;obtain ⟨x8, hx, h⟩ := eF h;refine o8 2 hx ?_;obtain ⟨z7, AG, h⟩ := aB h;refine mC 6 (xK AG) ?_;intro w M;obtain ⟨b8, Za, h⟩ := aB h;refine cC 9 ?_;intro a K;refine jR K (p8 (vs := [.pointer (some ⟨dO, 0, none⟩), .string (bs z7.1)]) (cap := []) rfl H0 K rfl rfl (vY (show Mem _ _ _ [.GV dO 148 A9 b7.length c9, .row 5 1 A9 b7.length c9 ((cI .u8).all (sN b7)), .row 9 1 A r3.1.length c (cS.all r3.1), .blk gF 31 [I p7, I qS, .slice yI xS.length yJ]] from M.pick [0,1,2,3] aE) Za)) ?_;clear K M; rintro _ a w ⟨QF, c10, M⟩ K;revert a;exact qK 8 (b8, IntKind.i64.wrap (i + 1)) (M.pick [1,0,2,3] aE)
     intro hb h;obtain ⟨F5, ES, h⟩ := aB h;refine mC 6 (xK ES) ?_;intro w M;obtain ⟨b9, aEG, h⟩ := aB h;refine cC 9 ?_;intro a K;refine jR K (p8 (vs := [.pointer (some ⟨dO, 0, none⟩), .string (bs F5.1)]) (cap := []) rfl H0 K rfl rfl (vY (show Mem _ _ _ [.GV dO 148 A9 b7.length c9, .row 5 1 A9 b7.length c9 ((cI .u8).all (sN b7)), .row 9 1 A r3.1.length c (cS.all r3.1), .blk gF 31 [I p7, I qS, .slice yI xS.length yJ]] from M.pick [0,1,2,3] aE) aEG)) ?_;clear K M; rintro _ a w ⟨Xk, c11, M⟩ K;revert a;exact qK 8 (b9, IntKind.i64.wrap (i + 1)) (M.pick [1,0,2,3] aE)
    intro hb h;exact qK 8 (b7, IntKind.i64.wrap (i + 1)) (M.pick [1,0,2,3] aE)
   intro hb h;exact qK 14 (b7, IntKind.i64.wrap (i + 1)) (M.pick [1,0,2,3] aE)
  intro hb h;refine cC 6 ?_;refine dI (fun _ K => OR rfl K rfl) M ?_;obtain ⟨GO, ET, h⟩ := aB h;refine mC 2 (D7 ET) ?_;intro w M;refine oT 11 66 h ?_ ?_
  ·intro hb h;exact iA 22 (M.pick [] aE)
  intro hb h;obtain ⟨e9, Hs, h⟩ := aB h;refine cC 2 ?_;refine dI (fun _ K => jS rfl xI K rfl rfl (iV (C := cS) 2 rfl rfl) Hs) M ?_;refine dI (fun _ K => fK rfl Hn K rfl rfl (iV (C := cS) 2 rfl rfl) Hs rfl) M ?_;refine dI (fun _ K => DS rfl K rfl rfl) M ?_;refine fJ 3 h ?_ ?_
  ·intro hb h;exact iA 13 (M.pick [] aE)
  intro hb h;obtain ⟨e10, Dg, h⟩ := aB h;refine cC 6 ?_;refine dI (fun _ K => jS rfl xI K rfl rfl (iV (C := cS) 2 rfl rfl) Dg) M ?_;refine dI (fun _ K => fK rfl Hn K rfl rfl (iV (C := cS) 2 rfl rfl) Dg rfl) M ?_;obtain ⟨b10, aCb, h⟩ := aB h;intro a K;refine jR K (p8 (vs := [.pointer (some ⟨dO, 0, none⟩), .string (bs e10)]) (cap := []) rfl H0 K rfl rfl (vY (show Mem _ _ _ [.GV dO 148 A2 l2.length c2, .row 5 1 A2 l2.length c2 ((cI .u8).all (sN l2)), .row 9 1 A r3.1.length c (cS.all r3.1), .blk gF 31 [I p7, I qS, .slice yI xS.length yJ]] from M.pick [1,0,2,3] aE) aCb)) ?_;clear K M; rintro _ a w ⟨Vj, c12, M⟩ K;revert a;refine oT 7 80 h ?_ ?_
  ·intro hb h;refine fJ 5 h ?_ ?_
   ·intro hb h;refine fJ 7 h ?_ ?_
    ·intro hb h;obtain ⟨_, h0, h⟩ := aB h;have h0 := mS h0;refine cC 3 ?_;refine dI (fun _ K => qC rfl K rfl rfl h0) M ?_;obtain ⟨x9, hx, h⟩ := eF h;refine o8 2 hx ?_;obtain ⟨r16, AH, h⟩ := aB h;refine mC 6 (xK AH) ?_;intro w M;obtain ⟨b11, aCc, h⟩ := aB h;refine cC 9 ?_;intro a K;refine jR K (p8 (vs := [.pointer (some ⟨dO, 0, none⟩), .string (bs r16.1)]) (cap := []) rfl H0 K rfl rfl (vY (show Mem _ _ _ [.GV dO 148 Vj b10.length c12, .row 5 1 Vj b10.length c12 ((cI .u8).all (sN b10)), .row 9 1 A r3.1.length c (cS.all r3.1), .blk gF 31 [I p7, I qS, .slice yI xS.length yJ]] from M.pick [0,1,2,3] aE) aCc)) ?_;clear K M; rintro _ a w ⟨LI, c13, M⟩ K;revert a;exact qK 8 (b11, IntKind.i64.wrap (i + 1)) (M.pick [1,0,2,3] aE)
    intro hb h;obtain ⟨BD, EU, h⟩ := aB h;refine mC 6 (xK EU) ?_;intro w M;obtain ⟨b12, aCd, h⟩ := aB h;refine cC 9 ?_;intro a K;refine jR K (p8 (vs := [.pointer (some ⟨dO, 0, none⟩), .string (bs BD.1)]) (cap := []) rfl H0 K rfl rfl (vY (show Mem _ _ _ [.GV dO 148 Vj b10.length c12, .row 5 1 Vj b10.length c12 ((cI .u8).all (sN b10)), .row 9 1 A r3.1.length c (cS.all r3.1), .blk gF 31 [I p7, I qS, .slice yI xS.length yJ]] from M.pick [0,1,2,3] aE) aCd)) ?_;clear K M; rintro _ a w ⟨Zb, c14, M⟩ K;revert a;exact qK 8 (b12, IntKind.i64.wrap (i + 1)) (M.pick [1,0,2,3] aE)
   intro hb h;exact qK 8 (b10, IntKind.i64.wrap (i + 1)) (M.pick [1,0,2,3] aE)
  intro hb h;exact qK 14 (b10, IntKind.i64.wrap (i + 1)) (M.pick [1,0,2,3] aE)
 intro hb h;exact rD 3 (hk1 (l2, i)) (M.pick [0,1,2,3] aE)
theorem N5 {N : Nat} {d : List UInt8} {o p2 p3 : Int} {p4 : List Int} {MC : Option Addr} {MD : Nat} {w0 : World} {r : Int × Int × List Int × Int} (h : Az N d o p2 p3 p4 = some r) (R0 : SL w0 (cI .i64) MC p4) (R3 : p4.length ≤ MD) :
  Calls Tryz.prog 146 #[.string (bs d), I o, I p2, I p3, .slice MC p4.length MD] w0 fun e w' => ∃ v, e = .returned v ∧ ∃ A2 c2, v = .tuple #[.agg #[I r.1, I r.2.1, .slice A2 r.2.2.1.length c2], I r.2.2.2] ∧ Mem w0.heap.size w0 w' [.row 3 1 A2 r.2.2.1.length c2 ((cI .i64).all r.2.2.1)] := by
 refine gE Tryz.func146 Tryz.ntmps146 ?_;intro M;unfold Az at h;refine u3 2 ?_;intro gF w M;refine u3 0 ?_;intro dO w M;refine oT 9 24 h ?_ ?_
 ·intro hb h;refine sZ 17 ?_;intro w M;exact iA 5 (((Mem.aJ 3 1 (cI .i64) M)).pick [0] aE)
 intro hb h;refine oT 4 28 h ?_ ?_
 ·intro hb h;refine sZ 13 ?_;intro w M;exact iA 5 (((Mem.aJ 3 1 (cI .i64) M)).pick [0] aE)
 intro hb h;refine oT 4 32 h ?_ ?_
 ·intro hb h;refine sZ 9 ?_;intro w M;exact iA 5 (((Mem.aJ 3 1 (cI .i64) M)).pick [0] aE)
 intro hb h;refine fJ 5 h ?_ ?_
 ·intro hb h;refine sZ 3 ?_;intro w M;exact iA 5 (((Mem.aJ 3 1 (cI .i64) M)).pick [0] aE)
 intro hb h;refine oT 8 39 h ?_ ?_
 ·intro hb h;refine sZ 9 ?_;intro w M;exact iA 5 (((Mem.aJ 3 1 (cI .i64) M)).pick [0] aE)
 intro hb h;refine fJ 5 h ?_ ?_
 ·intro hb h;refine sZ 3 ?_;intro w M;exact iA 5 (((Mem.aJ 3 1 (cI .i64) M)).pick [0] aE)
 intro hb h;obtain ⟨r2, gR, h⟩ := aB h;refine mC 6 (DU gR ((eG R0) _ M) R3) ?_;intro w M;refine fJ 9 h ?_ ?_
 ·intro hb h;refine sZ 4 ?_;intro w M;exact iA 5 (((Mem.aJ 3 1 (cI .i64) M)).pick [0] aE)
 intro hb h;refine cC 6 ?_;refine dI (fun _ K => eX rfl K (vs := [(0, I o), (1, I p2)]) (cs := [I o, I p2, .slice none ([] : List Int).length 0]) rfl bE) M ?_;refine u3 0 ?_;intro eW w M;refine sZ 0 ?_;intro w M;refine u3 4 ?_;intro nK w M;refine sZ 0 ?_;intro w M;refine cC 18 ?_;replace M := Mem.aJ 3 1 (cI .i64) M;refine u6 0 0 (fun (⟨Ep, x3, x4, i⟩ : List Int × List UInt8 × List UInt8 × Int) a w => ∃ (A : Option Addr) (c : Nat), Kn a 123 [(3, I p3), (4, .slice MC p4.length MD), (5, .pointer (some ⟨gF, 0, none⟩)), (10, .pointer (some ⟨dO, 0, none⟩)), (13, .pointer (some ⟨eW, 0, none⟩)), (14, .pointer (some ⟨nK, 0, none⟩)), (15, .func (.func 176) #[] #[.pointer (some ⟨nK, 0, none⟩), .pointer (some ⟨gF, 0, none⟩)]), (56, I (IntKind.i64.wrap (o * p2))), (57, I i)] ∧ Mem w0.heap.size w0 w [.row 3 1 A Ep.length c ((cI .i64).all Ep), .blk nK 9 [.string (bs x3)], .blk eW 31 [I o, I p2, .slice A Ep.length c], .blk dO 31 [I 0, I 0, .slice none ([] : List Int).length 0], .blk gF 9 [.string (bs x4)]]) (M.pick [0,1,2,3,4] aE) ?_ ?_
 ·clear M h;rintro ⟨LN, x27, x28, i8⟩ a w ⟨A7, c7, K, M⟩ h;try dsimp only at h
  revert a;refine cC 6 ?_;refine dI (fun _ K => zQ rfl K rfl rfl) M ?_;refine oT 1 117 h ?_ ?_
  ·intro hb h;refine sZ 9 ?_;intro w M;exact iA 5 (((Mem.aJ 3 1 (cI .i64) M)).pick [0] aE)
  intro hb h;obtain ⟨Ks, N6, h⟩ := aB h;refine mC 1 (FV N x27 ([49] : List UInt8) _  Ks N6) ?_;intro w M;refine fJ 3 h ?_ ?_
  ·intro hb h;refine sZ 3 ?_;intro w M;exact iA 5 (((Mem.aJ 3 1 (cI .i64) M)).pick [0] aE)
  intro hb h;refine sZ 5 ?_;intro w M;exact iA 4 (M.pick [0] aE)
 clear M h;rintro kk fuel ⟨Ep, x3, x4, i⟩ a w hk1 ⟨A, c, K, M⟩ h;unfold fQ at h;revert a;refine fJ 6 h ?_ ?_
 ·intro hb h;refine cC 14 ?_;intro a K;refine jR K (cZ rfl fU z3 K (vs := [(0, I 0)]) (cs := [I 0]) rfl bE rfl rfl M) ?_;have M0 := M; clear K M; rintro _ a w ⟨gs2, rfl, M⟩ K;replace M := M.iF 0 rfl (cI .i64) ([0] : List Int) (n := 1) rfl rfl rfl;clear M0;obtain ⟨Ay, PA, h⟩ := aB h;refine jR K (kN (C := (cI .i64)) (xs := Ep) (ys := ([0] : List Int)) rfl fU rfl z3 rfl rfl K rfl rfl 1 M rfl ((iV (C := (cI .i64)) 0 rfl rfl) _ M) PA) ?_;clear K M; rintro _ a w ⟨A4, c4, rfl, M⟩ K;revert a;refine sZ 1 ?_;intro w M;refine cC 6 ?_;intro a K;refine Jc (vs := [.slice MC p4.length MD, .func (.func 176) #[] #[.pointer (some ⟨nK, 0, none⟩), .pointer (some ⟨gF, 0, none⟩)]]) (cap := []) K (aA rfl) rfl rfl rfl UA rfl rfl ?_; clear K;refine oD Tryz.func178 rfl Tryz.ntmps178 rfl ?_;refine cC 12 ?_;intro a K;refine aBR (Rel := fun (⟨Ki, Hy, i4, i5, w3⟩ : List UInt8 × List UInt8 × Int × Int × List UInt8) a w => Kn a 39 [(0, .slice MC p4.length MD), (1, .func (.func 176) #[] #[.pointer (some ⟨nK, 0, none⟩), .pointer (some ⟨gF, 0, none⟩)]), (4, I i4), (5, I i5), (6, .string (bs w3))] ∧ Mem w0.heap.size w0 w [.row 3 1 (some ⟨gs2, 0, none⟩) ([0] : List Int).length 1 ((cI .i64).all ([0] : List Int)), .row 3 1 A4 Ay.length c4 ((cI .i64).all Ay), .blk nK 9 [.string (bs Ki)], .blk eW 31 [I o, I p2, .slice A4 Ay.length c4], .blk dO 31 [I 0, I 0, .slice none ([] : List Int).length 0], .blk gF 9 [.string (bs Hy)]]) h (fun _ _ => rfl) ⟨K.pick [0,1,4,5,6], M.pick [0,1,2,3,4,5] aE⟩ ?_ ?_
  ·clear K M h;rintro ⟨x20, x21, i6, i7, w4⟩ a w ⟨K, M⟩ h;try dsimp only at h
   revert a;refine cC 1 ?_;intro a K;refine Fp K rfl (jB K rfl) (jB K rfl) ⟨_, rfl, ?_⟩; clear K; intro a K;revert a;refine fJ 14 h ?_ ?_
   ·intro hb h;refine sZ 3 ?_;intro w M;exact iA 10 (((Mem.aJ 3 1 (cI .i64) M)).pick [0] aE)
   intro hb h;refine fJ 16 h ?_ ?_
   ·intro hb h;refine cC 5 ?_;intro a K;refine dC (fun w => Mem _ _ w _) [0,0,0,0,0,0,1,0,0,0,0,0,2] bE bE M.drew ?_;replace M := M.drew;revert a;obtain ⟨r16, AH, h⟩ := aB h;refine cC 6 ?_;intro a K;refine wH K (lJ JJ K (zR AH ((iV (C := (cI .i64)) 1 rfl rfl) _ M) (M.cap 1 rfl))) ?_;clear K; rintro _ a w ⟨rfl, Zq⟩ K;replace M := M.call Zq; clear Zq;refine ⟨M.pick [0,1,2,3,4,5] aE, ?_⟩;revert a;obtain ⟨e8, ER, h⟩ := aB h;refine cC 4 ?_;refine nX (fun _ K => gX rfl fU K rfl rfl ((iV (C := (cI .i64)) 1 rfl rfl) _ M) ER) ?_;obtain ⟨l6, PB, h⟩ := aB h;intro a K;refine Ss K (oZ (el := IntKind.i64.wrap (IntKind.u16.wrap (IntKind.i64.wrap (r16 + 32768)))) rfl yT rfl rfl K rfl rfl rfl 1 M rfl PB) ?_;have M0 := M; clear K M; rintro _ a w M K;have hl := rF PB;try rw [hl] at M
    try rw [hl] at K
    clear hl;clear M0;revert a;exact qK 8 (l6, x20, x21, IntKind.i64.wrap (i + 1)) (M.pick [1,2,3,4,5] aE)
   intro hb h;refine fJ 7 h ?_ ?_
   ·intro hb h;refine cC 4 ?_;intro a K;refine Jc (vs := [I i6]) (cap := [.pointer (some ⟨nK, 0, none⟩), .pointer (some ⟨gF, 0, none⟩)]) K (aA rfl) rfl rfl rfl Pr rfl rfl ?_; clear K;refine oD Tryz.func176 rfl Tryz.ntmps176 rfl ?_;refine u6 8 0 (fun (⟨Sj, x23⟩ : List UInt8 × List UInt8) a w => Kn a 33 [(0, I i6), (1, .pointer (some ⟨nK, 0, none⟩)), (2, .pointer (some ⟨gF, 0, none⟩))] ∧ Mem w0.heap.size w0 w [.row 3 1 (some ⟨gs2, 0, none⟩) ([0] : List Int).length 1 ((cI .i64).all ([0] : List Int)), .row 3 1 A4 Ay.length c4 ((cI .i64).all Ay), .blk nK 9 [.string (bs Sj)], .blk eW 31 [I o, I p2, .slice A4 Ay.length c4], .blk dO 31 [I 0, I 0, .slice none ([] : List Int).length 0], .blk gF 9 [.string (bs x23)]]) (M.pick [0,1,2,3,4,5] aE) ?_ ?_
    ·clear M h;rintro ⟨x24, x25⟩ a w ⟨K, M⟩ h;try dsimp only at h
     revert a;refine cC 6 ?_;refine dI (fun _ K => iM rfl pA K rfl) M ?_;refine fJ 4 h ?_ ?_
     ·intro hb h;refine cC 8 ?_;intro a K;refine Fp K rfl (jB K rfl) (jB K rfl) ⟨_, rfl, ?_⟩; clear K; intro a K;revert a;refine sZ 18 ?_;intro w M;exact iA 12 (((Mem.aJ 3 1 (cI .i64) M)).pick [0] aE)
     intro hb h;obtain ⟨s33, aCe, h⟩ := aB h;refine cC 6 ?_;refine dI (fun _ K => iZ (k := .i64) (k' := .i64) rfl pA K rfl rfl rfl aCe) M ?_;obtain ⟨s34, aCf, h⟩ := aB h;refine cC 7 ?_;refine dI (fun _ K => iZ (k := .i64) (k' := .i64) rfl pA K rfl rfl rfl aCf) M ?_;refine sZ 0 ?_;intro w M;refine cC 10 ?_;intro a K;refine Fp K rfl (jB K rfl) (jB K rfl) ⟨_, rfl, ?_⟩; clear K; intro a K;revert a;obtain ⟨Er, JT, h⟩ := aB h;refine mC 20 (Mz JT) ?_;intro w M;obtain ⟨b2, Pv, h⟩ := aB h;refine cC 9 ?_;refine dI (fun _ K => sT rfl pA K rfl rfl Pv) M ?_;refine fJ 3 h ?_ ?_
     ·intro hb h;obtain ⟨_, h0, h⟩ := aB h;have h0 := mS h0;refine cC 3 ?_;refine dI (fun _ K => qC rfl K rfl rfl h0) M ?_;obtain ⟨Sk, hx, h⟩ := eF h;refine o8 2 hx ?_;refine cC 3 ?_;intro a K;refine dC (fun w => Mem _ _ w _) [0,0,0,0,0,0,1,0,0,0,0,0,2] bE bE M.drew ?_;replace M := M.drew;revert a;obtain ⟨Gi, N7, h⟩ := aB h;refine cC 6 ?_;intro a K;refine wH K (lJ JJ K (zR N7 ((iV (C := (cI .i64)) 1 rfl rfl) _ M) (M.cap 1 rfl))) ?_;clear K; rintro _ a w ⟨rfl, Zq⟩ K;replace M := M.call Zq; clear Zq;refine ⟨M.pick [0,1,2,3,4,5] aE, ?_⟩;revert a;obtain ⟨e9, Hs, h⟩ := aB h;refine cC 4 ?_;refine nX (fun _ K => gX rfl fU K rfl rfl ((iV (C := (cI .i64)) 1 rfl rfl) _ M) Hs) ?_;obtain ⟨l7, JQ, h⟩ := aB h;intro a K;refine Ss K (oZ (el := IntKind.i64.wrap (IntKind.u16.wrap (IntKind.i64.wrap (Gi + Sk)))) rfl yT rfl rfl K rfl rfl rfl 1 M rfl JQ) ?_;have M0 := M; clear K M; rintro _ a w M K;have hl := rF JQ;try rw [hl] at M
      try rw [hl] at K
      clear hl;clear M0;revert a;exact qK 8 (l7, s34, x25, IntKind.i64.wrap (i + 1)) (M.pick [1,2,3,4,5] aE)
     intro hb h;refine cC 3 ?_;intro a K;refine dC (fun w => Mem _ _ w _) [0,0,0,0,0,0,1,0,0,0,0,0,2] bE bE M.drew ?_;replace M := M.drew;revert a;obtain ⟨Gj, N8, h⟩ := aB h;refine cC 6 ?_;intro a K;refine wH K (lJ JJ K (zR N8 ((iV (C := (cI .i64)) 1 rfl rfl) _ M) (M.cap 1 rfl))) ?_;clear K; rintro _ a w ⟨rfl, Zq⟩ K;replace M := M.call Zq; clear Zq;refine ⟨M.pick [0,1,2,3,4,5] aE, ?_⟩;revert a;obtain ⟨e10, Dg, h⟩ := aB h;refine cC 4 ?_;refine nX (fun _ K => gX rfl fU K rfl rfl ((iV (C := (cI .i64)) 1 rfl rfl) _ M) Dg) ?_;obtain ⟨l8, KD, h⟩ := aB h;intro a K;refine Ss K (oZ (el := IntKind.i64.wrap (IntKind.u16.wrap (IntKind.i64.wrap (Gj + Er.1)))) rfl yT rfl rfl K rfl rfl rfl 1 M rfl KD) ?_;have M0 := M; clear K M; rintro _ a w M K;have hl := rF KD;try rw [hl] at M
     try rw [hl] at K
     clear hl;clear M0;revert a;exact qK 8 (l8, s34, x25, IntKind.i64.wrap (i + 1)) (M.pick [1,2,3,4,5] aE)
    clear M h;rintro kk fuel ⟨Sj, x23⟩ a w hk4 ⟨K, M⟩ h;unfold lE at h;revert a;refine cC 4 ?_;refine dI (fun _ K => iM rfl pA K rfl) M ?_;refine oT 3 11 h ?_ ?_
    ·intro hb h;refine cC 1 ?_;refine dI (fun _ K => zQ rfl K rfl rfl) M ?_;refine fJ 3 h ?_ ?_
     ·intro hb h;refine cC 4 ?_;intro a K;refine dC (fun w => Mem _ _ w _) [0,0,0,1,0,2] bE bE M.drew ?_;replace M := M.drew;revert a;obtain ⟨s30, aCg, h⟩ := aB h;refine cC 2 ?_;refine nX (fun _ K => iZ (k := .i64) (k' := .i64) rfl pA K rfl rfl rfl aCg) ?_;obtain ⟨CP, EP, h⟩ := aB h;intro a K;refine wH K (lJ Ps K (H4 EP)) ?_;clear K; rintro _ a w ⟨rfl, Zq⟩ K;replace M := M.call Zq; clear Zq;refine ⟨M.pick [0,1,2,3,4,5] aE, ?_⟩;obtain ⟨s31, aCh, h⟩ := aB h;revert a;refine nX (fun _ K => Fm rfl K rfl rfl aCh) ?_;intro a K;refine Ss K (cA rfl Hn K rfl rfl rfl 2 M rfl rfl) ?_;clear K M; rintro _ a w M K;revert a;obtain ⟨s32, aCi, h⟩ := aB h;refine cC 4 ?_;refine dI (fun _ K => iZ (k := .i64) (k' := .i64) rfl pA K rfl rfl rfl aCi) M ?_;refine sZ 0 ?_;intro w M;exact qK 3 (s31, s32) (M.pick [0,1,2,3,4,5] aE)
     intro hb h;exact rD 3 (hk4 (Sj, x23)) (M.pick [0,1,2,3,4,5] aE)
    intro hb h;exact rD 9 (hk4 (Sj, x23)) (M.pick [0,1,2,3,4,5] aE)
   intro hb h;refine cC 3 ?_;intro a K;refine dC (fun w => Mem _ _ w _) [0,0,0,0,0,0,1,0,0,0,0,0,2] bE bE M.drew ?_;replace M := M.drew;revert a;obtain ⟨HH, N9, h⟩ := aB h;refine cC 6 ?_;intro a K;refine wH K (lJ JJ K (zR N9 ((iV (C := (cI .i64)) 1 rfl rfl) _ M) (M.cap 1 rfl))) ?_;clear K; rintro _ a w ⟨rfl, Zq⟩ K;replace M := M.call Zq; clear Zq;refine ⟨M.pick [0,1,2,3,4,5] aE, ?_⟩;revert a;obtain ⟨e11, Dh, h⟩ := aB h;refine cC 4 ?_;refine nX (fun _ K => gX rfl fU K rfl rfl ((iV (C := (cI .i64)) 1 rfl rfl) _ M) Dh) ?_;obtain ⟨l9, aCj, h⟩ := aB h;intro a K;refine Ss K (oZ (el := IntKind.i64.wrap (IntKind.u16.wrap (IntKind.i64.wrap (HH + 0)))) rfl yT rfl rfl K rfl rfl rfl 1 M rfl aCj) ?_;have M0 := M; clear K M; rintro _ a w M K;have hl := rF aCj;try rw [hl] at M
   try rw [hl] at K
   clear hl;clear M0;revert a;exact qK 8 (l9, x20, x21, IntKind.i64.wrap (i + 1)) (M.pick [1,2,3,4,5] aE)
  clear K M h;rintro kk fuel ⟨Ki, Hy, i4, i5, w3⟩ a w hk2 ⟨K, M⟩ h;unfold j0 at h;revert a;obtain ⟨z7, AG, h⟩ := aB h;refine mC 5 (N3 AG ((eG R0) _ M) R3) ?_;intro A6 c6 w M;refine fJ 16 h ?_ ?_
  ·intro hb h;obtain ⟨e7, Hr, h⟩ := aB h;refine cC 3 ?_;refine dI (fun _ K => jS rfl fU K rfl rfl (iV (C := (cI .i64)) 0 rfl rfl) Hr) M ?_;refine dI (fun _ K => fK rfl nO K rfl rfl (iV (C := (cI .i64)) 0 rfl rfl) Hr rfl) M ?_;refine cC 8 ?_;intro a K;exact DE (hk2 (Ki, Hy, e7, z7.2.2, w3) _ _ ⟨K.pick [0,1,4,5,6], M.pick [1,2,3,4,5,6] aE⟩ h)
  intro hb h;refine cC 5 ?_;intro a K;refine Jc (vs := [I 1]) (cap := [.pointer (some ⟨nK, 0, none⟩), .pointer (some ⟨gF, 0, none⟩)]) K (aA rfl) rfl rfl rfl Pr rfl rfl ?_; clear K;refine oD Tryz.func176 rfl Tryz.ntmps176 rfl ?_;refine u6 8 0 (fun (⟨FH, Ko⟩ : List UInt8 × List UInt8) a w => Kn a 33 [(0, I 1), (1, .pointer (some ⟨nK, 0, none⟩)), (2, .pointer (some ⟨gF, 0, none⟩))] ∧ Mem w0.heap.size w0 w [.row 3 1 A6 z7.1.length c6 ((cI .i64).all z7.1), .row 3 1 (some ⟨gs2, 0, none⟩) ([0] : List Int).length 1 ((cI .i64).all ([0] : List Int)), .row 3 1 A4 Ay.length c4 ((cI .i64).all Ay), .blk nK 9 [.string (bs FH)], .blk eW 31 [I o, I p2, .slice A4 Ay.length c4], .blk dO 31 [I 0, I 0, .slice none ([] : List Int).length 0], .blk gF 9 [.string (bs Ko)]]) (M.pick [0,1,2,3,4,5,6] aE) ?_ ?_
  ·clear M h;rintro ⟨x18, LH⟩ a w ⟨K, M⟩ h;try dsimp only at h
   revert a;refine cC 6 ?_;refine dI (fun _ K => iM rfl pA K rfl) M ?_;refine fJ 4 h ?_ ?_
   ·intro hb h;refine cC 8 ?_;intro a K;refine Fp K rfl (jB K rfl) (jB K rfl) ⟨_, rfl, ?_⟩; clear K; intro a K;revert a;refine oT 13 32 h ?_ ?_
    ·intro hb h;refine cC 15 ?_;intro a K;exact DE (hk2 (x18, LH, 0, 1, w3) _ _ ⟨K.pick [0,1,4,5,6], M.pick [1,2,3,4,5,6] aE⟩ h)
    intro hb h;refine cC 15 ?_;intro a K;exact DE (hk2 (x18, LH, 0, 1, w3) _ _ ⟨K.pick [0,1,4,5,6], M.pick [1,2,3,4,5,6] aE⟩ h)
   intro hb h;obtain ⟨s24, aCk, h⟩ := aB h;refine cC 6 ?_;refine dI (fun _ K => iZ (k := .i64) (k' := .i64) rfl pA K rfl rfl rfl aCk) M ?_;obtain ⟨Zw, aCl, h⟩ := aB h;refine cC 7 ?_;refine dI (fun _ K => iZ (k := .i64) (k' := .i64) rfl pA K rfl rfl rfl aCl) M ?_;refine sZ 0 ?_;intro w M;refine cC 10 ?_;intro a K;refine Fp K rfl (jB K rfl) (jB K rfl) ⟨_, rfl, ?_⟩; clear K; intro a K;revert a;refine oT 13 32 h ?_ ?_
   ·intro hb h;refine cC 15 ?_;intro a K;exact DE (hk2 (Zw, LH, 0, 1, w3) _ _ ⟨K.pick [0,1,4,5,6], M.pick [1,2,3,4,5,6] aE⟩ h)
   intro hb h;obtain ⟨s26, aCm, h⟩ := aB h;refine cC 11 ?_;refine dI (fun _ K => Fm rfl K rfl rfl aCm) M ?_;exact qK 4 (Zw, LH, i4, i5, s26) (M.pick [1,2,3,4,5,6] aE)
  clear M h;rintro kk fuel ⟨FH, Ko⟩ a w hk3 ⟨K, M⟩ h;unfold vV at h;revert a;refine cC 4 ?_;refine dI (fun _ K => iM rfl pA K rfl) M ?_;refine oT 3 11 h ?_ ?_
  ·intro hb h;refine cC 1 ?_;refine dI (fun _ K => zQ rfl K rfl rfl) M ?_;refine fJ 3 h ?_ ?_
   ·intro hb h;refine cC 4 ?_;intro a K;refine dC (fun w => Mem _ _ w _) [0,0,0,1,0,2] bE bE M.drew ?_;replace M := M.drew;revert a;obtain ⟨s21, aCn, h⟩ := aB h;refine cC 2 ?_;refine nX (fun _ K => iZ (k := .i64) (k' := .i64) rfl pA K rfl rfl rfl aCn) ?_;obtain ⟨GO, ET, h⟩ := aB h;intro a K;refine wH K (lJ Ps K (H4 ET)) ?_;clear K; rintro _ a w ⟨rfl, Zq⟩ K;replace M := M.call Zq; clear Zq;refine ⟨M.pick [0,1,2,3,4,5,6] aE, ?_⟩;obtain ⟨s22, aCo, h⟩ := aB h;revert a;refine nX (fun _ K => Fm rfl K rfl rfl aCo) ?_;intro a K;refine Ss K (cA rfl Hn K rfl rfl rfl 3 M rfl rfl) ?_;clear K M; rintro _ a w M K;revert a;obtain ⟨s23, aCp, h⟩ := aB h;refine cC 4 ?_;refine dI (fun _ K => iZ (k := .i64) (k' := .i64) rfl pA K rfl rfl rfl aCp) M ?_;refine sZ 0 ?_;intro w M;exact qK 3 (s22, s23) (M.pick [0,1,2,3,4,5,6] aE)
   intro hb h;exact rD 3 (hk3 (FH, Ko)) (M.pick [0,1,2,3,4,5,6] aE)
  intro hb h;exact rD 9 (hk3 (FH, Ko)) (M.pick [0,1,2,3,4,5,6] aE)
 intro hb h;exact rD 3 (hk1 (Ep, x3, x4, i)) (M.pick [0,1,2,3,4] aE)
theorem Ab {N : Nat} {x2 : List Int} {Zc : Option Addr} {Zd : Nat} {w0 : World} {r : Int} (h : mU N x2 = some r) (WC : SL w0 (cI .i64) Zc x2) (aFb : x2.length ≤ Zd) :
  Calls Tryz.prog 47 #[.slice Zc x2.length Zd] w0 fun e w' => ∃ v, e = .returned v ∧ v = I r ∧ Mem w0.heap.size w0 w' [] := by
 refine gE Tryz.func47 Tryz.ntmps47 ?_;intro M;unfold mU at h;refine fJ 13 h ?_ ?_
 ·intro hb h;refine cC 1 ?_;refine dI (fun _ K => qO rfl cc9 K rfl) M ?_;intro a K;cases h
 intro hb h;obtain ⟨e, H5, h⟩ := aB h;refine cC 5 ?_;refine dI (fun _ K => jS rfl fU K rfl rfl (eG WC) H5) M ?_;refine dI (fun _ K => fK rfl nO K rfl rfl (eG WC) H5 rfl) M ?_;refine u6 10 0 (fun (⟨m, i⟩ : Int × Int) a w => Kn a 25 [(0, .slice Zc x2.length Zd), (3, I m), (4, I i)] ∧ Mem w0.heap.size w0 w []) M.nQ ?_ ?_
 ·clear M h;rintro ⟨m4, i4⟩ a w ⟨K, M⟩ h;try dsimp only at h
  revert a;exact cW 9 (M.pick [] aE)
 clear M h;rintro kk fuel ⟨m, i⟩ a w hk1 ⟨K, M⟩ h;unfold lG at h;revert a;refine fJ 9 h ?_ ?_
 ·intro hb h;obtain ⟨e3, vZ, h⟩ := aB h;refine cC 8 ?_;refine dI (fun _ K => jS rfl fU K rfl rfl (eG WC) vZ) M ?_;refine dI (fun _ K => fK rfl nO K rfl rfl (eG WC) vZ rfl) M ?_;obtain ⟨m3, hx, h⟩ := eF h;refine o8 1 hx ?_;obtain ⟨i3, hx, h⟩ := eF h;refine o8 6 hx ?_;exact qK 2 (m3, i3) M.nQ
 intro hb h;exact rD 3 (hk1 (m, i)) M.nQ
theorem Di {N : Nat} {s : List Int} {FA : Option Addr} {Gw : Nat} {w0 : World} {r : List Int} (h : tC N s = some r) (JM : SL w0 (cI .i64) FA s) (UF : s.length ≤ Gw) :
  Calls Tryz.prog 48 #[.slice FA s.length Gw] w0 fun e w' => ∃ v, e = .returned v ∧ ∃ A0 c0, v = .slice A0 r.length c0 ∧ Mem w0.heap.size w0 w' [.row 3 1 A0 r.length c0 ((cI .i64).all r)] := by
 refine gE Tryz.func48 Tryz.ntmps48 ?_;intro M;unfold tC at h;refine cC 9 ?_
 by_cases hA : (FA).isNone = true
 ·have hs := SL.JH JM hA;replace h : some ([] : List Int) = some r := by rw [hs] at h; exact h
  clear hs;refine dI (fun _ K => FG (b' := true) hA (BO rfl Mu K rfl rfl)) M ?_;exact cW 10 (((Mem.aJ 3 1 (cI .i64) M)).pick [0] aE)
 refine dI (fun _ K => FG (b' := false) ((Bool.not_eq_true _).mp hA) (BO rfl Mu K rfl rfl)) M ?_;refine cC 7 ?_;intro a K;refine jR K (FP (C := (cI .i64)) rfl fU rfl K M) ?_;clear K M; rintro _ a w ⟨gs, rfl, M⟩ K;revert a;obtain ⟨l2, FT, h⟩ := aB h;refine cC 1 ?_;intro a K;refine jR K (kN (C := (cI .i64)) (xs := ([] : List Int)) (ys := s) rfl fU rfl z3 rfl rfl K rfl rfl 0 M rfl ((eG JM) _ M) FT) ?_;clear K M; rintro _ a w ⟨A, c, rfl, M⟩ K;revert a;exact cW 4 (M.pick [0] aE)
section
variable {P : Program} {ops : Array Oper} {Q : Exit → Act → World → Prop} {a : Act} {w : World} {o : Oper} {lp n : Nat}
theorem Mem.back {b : Nat} {W V w : World} {L L' : List mT} (M : Mem b W V L) (M' : Mem b V w L') : Mem b W w L' := ⟨M.low.trans M'.low, M.QO.trans M'.QO, M.bs, M'.has, M'.up, M'.one⟩
theorem WD (o : Obj) : Vq o = o.isCells := by cases o <;> rfl
theorem Mem.others {b : Nat} {W w : World} {L : List mT} (M : Mem b W w L) : KeepsOthers W w := ⟨M.low.size, fun k o hk ho => M.QO k o hk (by rw [WD]; exact ho)⟩
theorem ME {L L' : List mT} (hf : L'.map mT.foot = L.map mT.foot) {i : Nat} {e : mT} (h : L'[i]? = some e) : ∃ e0, L[i]? = some e0 ∧ e0.foot = e.foot := by
 have h1 : (L'.map mT.foot)[i]? = some e.foot := by rw [List.getElem?_map, h]; rfl
 rw [hf, List.getElem?_map, Option.map_eq_some_iff] at h1;exact h1
theorem Mem.round {b : Nat} {W w V : World} {L L' : List mT} (M : Mem b W w L) (hf : L'.map mT.foot = L.map mT.foot) (hb : Below b W V) (has : ∀ (i : Nat) (e : mT), L'[i]? = some e → mT.holds V e) : Mem b V V L' :=
  ⟨Below.refl _ _, yY.refl _, Nat.le_trans M.bs hb.size, has,
   fun i e g h hg => by obtain ⟨e0, h0, h1⟩ := ME hf h; exact M.up i e0 g h0 (h1.trans hg),
   fun i j e e' g h h' hg hg' => by
     obtain ⟨e0, h0, h1⟩ := ME hf h
     obtain ⟨e0', h0', h1'⟩ := ME hf h'
     exact M.one i j e0 e0' g h0 h0' (h1.trans hg) (h1'.trans hg')⟩
theorem Mem.fin {W w : World} (h : Below W.heap.size W w) : Mem W.heap.size W w [] := ⟨h, yY.below h, Nat.le_refl _, fun i e he => by simp at he, fun i e g he => by simp at he, fun i j e e' g he => by simp at he⟩
end
theorem MF : ∀ xs : List Int, (cI .i64).all xs = VI xs
 | [] => rfl
 | x :: xs => by
  have := MF xs;simp only [vB.all, VI, List.flatMap_cons, List.map_cons] at this ⊢;rw [this]; rfl
theorem UU {w : World} {A : Option Addr} {xs : List Int} (h : SL w (cI .i64) A xs) : RI w 0 A xs.length xs := by
 refine ⟨by simp [VI], fun hn => ?_⟩;obtain ⟨b, o, hA, hc⟩ := h hn;have hall := MF xs;rw [hall] at hc;refine ⟨b, o, hA, Nat.zero_le _, ?_, hc⟩;have h0 : (VI xs)[0]? = some (.int .i64 xs[0]) := by simp [VI, List.getElem?_eq_getElem hn]
 exact block_lt_of_cell (hc 0 _ h0)
theorem UV {w : World} {A : Option Addr} {l : List (Int × Int)} (h : SL w eI A l) : RS w 0 A l.length l := by
 refine ⟨rfl, fun hn => ?_⟩;obtain ⟨b, o, hA, hc⟩ := h hn
 have key : ∀ (k : Nat) x y, l[k]? = some (x, y) → (eI.all l)[k * 2]? = some (.int .i64 x) ∧ (eI.all l)[k * 2 + 1]? = some (.int .i64 y) := fun k x y hk => by
  exact ⟨by simpa [eI] using vB.Al eI l k 0 (x, y) _ hk rfl, vB.Al eI l k 1 (x, y) _ hk rfl⟩
 have h0 := (key 0 l[0].1 l[0].2 (List.getElem?_eq_getElem hn)).1;refine ⟨b, o, hA, Nat.zero_le _, block_lt_of_cell (hc _ _ h0), fun k x y hk => ?_⟩;obtain ⟨h1, h2⟩ := key k x y hk;exact ⟨hc _ _ h1, by have := hc _ _ h2; rwa [← Nat.add_assoc] at this⟩
theorem Mem.aEJ {w w' : World} {A : Option Addr} {n c : Nat} {xs : List Int} (hb : Below w.heap.size w w') (h : OI w' w.heap.size A n c xs) (hn : n ≤ maxLen) : Mem w.heap.size w w' [.row 3 1 A xs.length c ((cI .i64).all xs)] := by
 obtain ⟨g, rfl, rfl, hg, hl, hB⟩ := h;have hall := MF xs
 have M1 : Mem w.heap.size w w' [.blk g 3 (VI xs)] := by
  refine (Mem.Vv hb).cons hB fun g' hg' => ?_
  simp [mT.foot] at hg'
  subst hg';exact ⟨hg, fun i e h => by simp at h⟩
 exact M1.iF 0 rfl (cI .i64) xs hall hl rfl hn
theorem Ip (N : Nat) (C7 Dx : Int) (uQ : List Int) (xL : Option Addr) (xM : Nat) (l : List (Int × Int)) (A_l : Option Addr) (c_l : Nat) (w0 : World) (Cm : SL w0 (cI .i64) xL uQ) (Lv : uQ.length ≤ xM) (R_l : SL w0 eI A_l l) (C_l : l.length ≤ c_l) (r : Int × Int × List Int × Int) (h : AK N C7 Dx uQ l = some r) :
  Calls Tryz.prog 36 #[.agg #[.int .i64 C7, .int .i64 Dx, .slice xL uQ.length xM], .slice A_l l.length c_l] w0 fun e w' => ∃ v, e = .returned v ∧ ∃ A2 c2, v = .tuple #[.agg #[.int .i64 r.1, .int .i64 r.2.1, .slice A2 r.2.2.1.length c2], .int .i64 r.2.2.2] ∧ Mem w0.heap.size w0 w' [.row 3 1 A2 r.2.2.1.length c2 ((cI .i64).all r.2.2.1)] := by
 unfold AK at h
 split at h
 ·cases h
 rename_i hn
 have hn' : uQ.length ≤ maxLen := by simp only [maxLen]; omega
 have no : ∀ {w' : World} (k : Int), Below w0.heap.size w0 w' → ∃ v, Ending.returned (.tuple #[GF, .int .i64 k]) = Ending.returned v ∧ ∃ A2 c2, v = .tuple #[.agg #[.int .i64 (0 : Int), .int .i64 (0 : Int), .slice A2 ([] : List Int).length c2], .int .i64 k] ∧ Mem w0.heap.size w0 w' [.row 3 1 A2 ([] : List Int).length c2 ((cI .i64).all [])] :=
  fun k hb => ⟨_, rfl, none, 0, rfl, Mem.aJ 3 1 (cI .i64) (Mem.Vv hb)⟩
 split at h
 ·rename_i hf
  cases h;refine (Od C7 Dx xL A_l uQ.length xM l.length c_l uQ l w0 (UU Cm) (UV R_l) hn' hf).mono ?_;rintro e w' ⟨rfl, hb⟩;exact no 1 hb
 rename_i hf
 have hf' : o6 C7 Dx uQ = true := by simpa using hf
 split at h
 ·rename_i hm
  cases h;refine (Oe C7 Dx xL A_l uQ.length xM l.length c_l uQ l w0 (UU Cm) (UV R_l) hn' hf' hm).mono ?_;rintro e w' ⟨rfl, hb⟩;exact no 2 hb
 rename_i hm
 obtain ⟨⟨h1, h2, h3, h4⟩, _, _⟩ := CL.1 hf';obtain ⟨m, rfl⟩ : ∃ m : Nat, C7 = m := ⟨C7.toNat, by omega⟩
 have hr := Of Dx xL A_l uQ.length xM l.length c_l uQ l w0 m (UU Cm) (UV R_l) hn' hf' (by omega);refine hr.mono ?_;intro e w' hp;unfold sV at hp
 split at h
 ·rename_i ha
  cases h;rw [if_neg (by simp [ha])] at hp;obtain ⟨rfl, hb⟩ := hp;exact no 3 hb
 ·rename_i ha
  cases h;rw [if_pos (by simpa using ha)] at hp;obtain ⟨A', c', rfl, ⟨_, ho⟩, hb⟩ := hp;have hl : ((List.range uQ.length).map (Fd (m : Int) Dx l uQ)).length = uQ.length := by simp
  refine ⟨_, rfl, A', c', by rw [hl], Mem.aEJ hb ho hn'⟩
theorem MG {N : Nat} {d : List (Int × Int)} {JO : Option Addr} {JP : Nat} {w0 : World} {r : Bool} (h : mJ N d = some r) (Cl : SL w0 eI JO d) (Xj : d.length ≤ JP) :
  Calls Tryz.prog 160 #[.slice JO d.length JP] w0 fun e w' => ∃ v, e = .returned v ∧ v = .bool r ∧ Mem w0.heap.size w0 w' [] := by
 refine gE Tryz.func160 Tryz.ntmps160 ?_;intro M;unfold mJ at h;refine oT 12 7 h ?_ ?_
 ·intro hb h;exact cW 48 (M.pick [] aE)
 intro hb h;refine oT 5 12 h ?_ ?_
 ·intro hb h;exact cW 43 (M.pick [] aE)
 intro hb h;obtain ⟨e, H5, h⟩ := aB h;refine cC 1 ?_;refine dI (fun _ K => jS rfl sI K rfl rfl (eG Cl) H5) M ?_;refine cC 1 ?_;refine dI (fun _ K => qR rfl nO K rfl rfl (eG Cl) H5 rfl) M ?_;refine oT 3 19 h ?_ ?_
 ·intro hb h;exact cW 36 (M.pick [] aE)
 intro hb h;obtain ⟨e2, mP, h⟩ := aB h;refine cC 4 ?_;refine dI (fun _ K => jS rfl sI K rfl rfl (eG Cl) mP) M ?_;refine cC 1 ?_;refine dI (fun _ K => qR rfl nO K rfl rfl (eG Cl) mP rfl) M ?_;refine oT 3 29 h ?_ ?_
 ·intro hb h;exact cW 26 (M.pick [] aE)
 intro hb h;obtain ⟨e3, vZ, h⟩ := aB h;refine cC 1 ?_;refine dI (fun _ K => jS rfl sI K rfl rfl (eG Cl) vZ) M ?_;refine cC 1 ?_;refine dI (fun _ K => qR rfl nO K rfl rfl (eG Cl) vZ rfl) M ?_;refine oT 3 36 h ?_ ?_
 ·intro hb h;exact cW 19 (M.pick [] aE)
 intro hb h;obtain ⟨e4, wT, h⟩ := aB h;refine cC 4 ?_;refine dI (fun _ K => jS rfl sI K rfl rfl (eG Cl) wT) M ?_;refine cC 1 ?_;refine dI (fun _ K => qR rfl nO K rfl rfl (eG Cl) wT rfl) M ?_;refine fJ 4 h ?_ ?_
 ·intro hb h;exact cW 7 (M.pick [] aE)
 intro hb h;obtain ⟨l2, FT, h⟩ := aB h;refine cC 6 ?_;refine dI (fun _ K => MY (C := eI) (k := .i64) (k' := .i64) rfl sI rfl K rfl Xj rfl rfl FT) M ?_;refine u6 5 0 (fun (i : Int) a w => Kn a 79 [(0, .slice JO d.length JP), (48, I (l2.length : Int)), (49, I i)] ∧ Mem w0.heap.size w0 w []) M.nQ ?_ ?_
 ·clear M h;rintro i2 a w ⟨K, M⟩ h;try dsimp only at h
  revert a;exact cW 8 (M.pick [] aE)
 clear M h;rintro kk fuel i a w hk1 ⟨K, M⟩ h;unfold rY at h;revert a;refine fJ 6 h ?_ ?_
 ·intro hb h;refine Su 11 ?_;replace M := M.drew;obtain ⟨e9, Hs, h⟩ := aB h;refine cC 2 ?_;refine nX (fun _ K => gX rfl sI K rfl rfl ((eG Cl) _ M) Hs) ?_;refine cC 1 ?_;refine nX (fun _ K => qR rfl nO K rfl rfl (eG Cl) Hs rfl) ?_;obtain ⟨e10, Dg, h⟩ := aB h;refine cC 3 ?_;refine nX (fun _ K => gX rfl sI K rfl rfl ((eG Cl) _ M) Dg) ?_;refine cC 1 ?_;refine nX (fun _ K => qR rfl nO K rfl rfl (eG Cl) Dg rfl) ?_;refine oT 2 64 h ?_ ?_
  ·intro hb h;exact cW 27 (M.pick [] aE)
  intro hb h;obtain ⟨e11, Dh, h⟩ := aB h;refine cC 2 ?_;refine nX (fun _ K => gX rfl sI K rfl rfl ((eG Cl) _ M) Dh) ?_;refine cC 1 ?_;refine nX (fun _ K => qR rfl nO K rfl rfl (eG Cl) Dh rfl) ?_;obtain ⟨e12, EX, h⟩ := aB h;refine cC 3 ?_;refine nX (fun _ K => gX rfl sI K rfl rfl ((eG Cl) _ M) EX) ?_;refine cC 1 ?_;refine nX (fun _ K => qR rfl nO K rfl rfl (eG Cl) EX rfl) ?_;refine fJ 4 h ?_ ?_
  ·intro hb h;exact cW 11 (M.pick [] aE)
  intro hb h;exact qK 8 (IntKind.i64.wrap (i + 1)) M.nQ
 intro hb h;exact rD 3 (hk1 i) M.nQ
theorem Og {N : Nat} {i : Int} {v0 : List (Int × Int)} {UH : Option Addr} {UI : Nat} {v1 : Int} {GB Oh : Nat} {w0 : World} {r : Bool} (h : CG N i v0 v1 = some r) (Py : SL w0 eI UH v0) (aEB : v0.length ≤ UI) (MA : mM w0 GB 26 #[.slice UH v0.length UI]) (UW : mM w0 Oh 3 #[I v1]) :
  Calls Tryz.prog 192 #[I i, .pointer (some ⟨GB, 0, none⟩), .pointer (some ⟨Oh, 0, none⟩)] w0 fun e w' => ∃ v, e = .returned v ∧ v = .bool r ∧ Mem w0.heap.size w0 w' [] := by
 refine gE Tryz.func192 Tryz.ntmps192 ?_;intro M;unfold CG at h;refine Su 6 ?_;replace M := M.drew;obtain ⟨e, H5, h⟩ := aB h;refine cC 2 ?_;refine nX (fun _ K => gX rfl sI K rfl rfl ((eG Py) _ M) H5) ?_;refine cC 1 ?_;refine nX (fun _ K => qR rfl nO K rfl rfl (eG Py) H5 rfl) ?_;exact cW 6 (M.pick [] aE)
theorem CS {N : Nat} {n : Int} {CM : List (Int × Int)} {Oi : Option Addr} {Oj : Nat} {Ey : Int} {GH GI : Nat} {w0 : World} {r : Int} (h : pC N n CM Ey = some r) (UX : SL w0 eI Oi CM) (UY : CM.length ≤ Oj) (PG : mM w0 GH 26 #[.slice Oi CM.length Oj]) (PH : mM w0 GI 3 #[I Ey]) :
  Calls Tryz.prog 191 #[I n, .func (.func 192) #[] #[.pointer (some ⟨GH, 0, none⟩), .pointer (some ⟨GI, 0, none⟩)]] w0 fun e w' => ∃ v, e = .returned v ∧ v = I r ∧ Mem w0.heap.size w0 w' [] := by
 refine gE Tryz.func191 Tryz.ntmps191 ?_;intro M;unfold pC at h;refine u6 14 0 (fun (⟨i, j⟩ : Int × Int) a w => Kn a 26 [(1, .func (.func 192) #[] #[.pointer (some ⟨GH, 0, none⟩), .pointer (some ⟨GI, 0, none⟩)]), (5, I i), (6, I j)] ∧ Mem w0.heap.size w0 w []) M.nQ ?_ ?_
 ·clear M h;rintro ⟨i4, j2⟩ a w ⟨K, M⟩ h;try dsimp only at h
  revert a;exact cW 9 (M.pick [] aE)
 clear M h;rintro kk fuel ⟨i, j⟩ a w hk1 ⟨K, M⟩ h;unfold fT at h;revert a;refine fJ 8 h ?_ ?_
 ·intro hb h;refine cC 9 ?_;refine dI (fun _ K => rR rfl K rfl rfl aE) M ?_;obtain ⟨h3, hx, h⟩ := eF h;refine o8 1 hx ?_;obtain ⟨r3, lU, h⟩ := aB h;refine cC 6 ?_;intro a K;refine jR K (p8 (vs := [I h3]) (cap := [.pointer (some ⟨GH, 0, none⟩), .pointer (some ⟨GI, 0, none⟩)]) rfl UB K rfl rfl (Og lU ((eG UX) _ M) UY (PP PG _ M) (PP PH _ M))) ?_;clear K; rintro _ a w ⟨rfl, Zq⟩ K;replace M := M.call Zq; clear Zq;revert a;refine fJ 3 h ?_ ?_
  ·intro hb h;obtain ⟨i3, hx, h⟩ := eF h;refine o8 3 hx ?_;exact qK 3 (i3, j) M.nQ
  intro hb h;exact qK 6 (i, h3) M.nQ
 intro hb h;exact rD 3 (hk1 (i, j)) M.nQ
theorem R6 {N : Nat} {l2 : List (Int × Int)} {xN : Option Addr} {xO : Nat} {x2 : Int} {w0 : World} {r : Int} (h : yF N l2 x2 = some r) (uR : SL w0 eI xN l2) (Hu : l2.length ≤ xO) :
  Calls Tryz.prog 161 #[.slice xN l2.length xO, I x2] w0 fun e w' => ∃ v, e = .returned v ∧ v = I r ∧ Mem w0.heap.size w0 w' [] := by
 refine gE Tryz.func161 Tryz.ntmps161 ?_;intro M;unfold yF at h;refine u3 2 ?_;intro g_l w M;refine u3 0 ?_;intro gF w M;obtain ⟨r2, gR, h⟩ := aB h;refine mC 8 (CS gR ((eG uR) _ M) Hu (M.dV (i := 1) rfl) (M.dV (i := 0) rfl)) ?_;intro w M;refine fJ 12 h ?_ ?_
 ·intro hb h;obtain ⟨e, H5, h⟩ := aB h;refine cC 5 ?_;refine dI (fun _ K => jS rfl sI K rfl rfl (eG uR) H5) M ?_;refine cC 1 ?_;refine dI (fun _ K => qR rfl nO K rfl rfl (eG uR) H5 rfl) M ?_;exact cW 5 (M.pick [] aE)
 intro hb h;refine cC 3 ?_;intro a K;refine sH (fun w => Mem _ _ w _) [0,0,0,0,0,0,0,0,0,1,1,1,2] 13 [0,1,2,3,4,5,6,7,8,9,10,11,12] bE bE bE rfl M.drew ?_;replace M := M.drew;revert a;obtain ⟨e2, mP, h⟩ := aB h;refine cC 3 ?_;intro a K;refine dU 3 [4,5,6,7,8,9,10,11,12] bE rfl K (aA rfl) rfl rfl (gX rfl sI K rfl rfl ((eG uR) _ M) mP) ?_; clear K; intro a K;refine dU 4 [5,6,7,8,9,10,11,12] bE rfl K (aA rfl) rfl rfl (BQ rfl KA K rfl rfl rfl (eG uR) mP) ?_; clear K; intro a K;revert a;obtain ⟨e3, vZ, h⟩ := aB h;refine cC 2 ?_;intro a K;refine dU 7 [8,9,10,11,12] bE rfl K (aA rfl) rfl rfl (gX rfl sI K rfl rfl ((eG uR) _ M) vZ) ?_; clear K; intro a K;refine dU 8 [9,10,11,12] bE rfl K (aA rfl) rfl rfl (BQ rfl KA K rfl rfl rfl (eG uR) vZ) ?_; clear K; intro a K;refine gD [9,10] bE ⟨?_, ?_, trivial⟩
 ·refine k7 [10,11,12] bE rfl K (aA rfl) rfl rfl (pM rfl z47 M) ?_;clear K M; rintro _ a w ⟨g_a, rfl, M⟩ K;refine ⟨fun _ => M.pick [1,2] aE, ?_⟩;refine gD [10] bE ⟨?_, trivial⟩;refine k7 [11,12] bE rfl K (aA rfl) rfl rfl (pM rfl z47 M) ?_;clear K M; rintro _ a w ⟨Xl, rfl, M⟩ K;refine ⟨fun _ => M.pick [2,3] aE, ?_⟩;refine gD [11] bE ⟨?_, trivial⟩;refine wL [12] bE rfl K (aA rfl) rfl (oL rfl KA K rfl (ds := [I e2.1, I e2.2]) rfl rfl 1 M rfl rfl rfl) ?_;clear K M; rintro _ a w M K;refine ⟨fun _ => M.pick [2,3] aE, ?_⟩;refine gD [12] bE ⟨?_, trivial⟩;refine wL [] bE rfl K (aA rfl) rfl (oL rfl KA K rfl (ds := [I e3.1, I e3.2]) rfl rfl 0 M rfl rfl rfl) ?_;clear K M; rintro _ a w M K;refine ⟨fun h => absurd h aE, ?_⟩;revert a;refine Su 3 ?_;replace M := M.drew;obtain ⟨_, h0, h⟩ := aB h;have h0 := xQ h0;refine cC 17 ?_;refine nX (fun _ K => vA rfl K rfl rfl h0) ?_;obtain ⟨x3, hx, h⟩ := eF h;refine ZW 0 hx ?_;exact cW 4 (M.pick [] aE)
 ·refine k7 [9,11,12] bE rfl K (aA rfl) rfl rfl (pM rfl z47 M) ?_;clear K M; rintro _ a w ⟨aFg, rfl, M⟩ K;refine ⟨fun _ => M.pick [1,2] aE, ?_⟩;refine gD [9] bE ⟨?_, trivial⟩;refine k7 [11,12] bE rfl K (aA rfl) rfl rfl (pM rfl z47 M) ?_;clear K M; rintro _ a w ⟨aFh, rfl, M⟩ K;refine ⟨fun _ => M.pick [2,3] aE, ?_⟩;refine gD [11] bE ⟨?_, trivial⟩;refine wL [12] bE rfl K (aA rfl) rfl (oL rfl KA K rfl (ds := [I e2.1, I e2.2]) rfl rfl 0 M rfl rfl rfl) ?_;clear K M; rintro _ a w M K;refine ⟨fun _ => M.pick [2,3] aE, ?_⟩;refine gD [12] bE ⟨?_, trivial⟩;refine wL [] bE rfl K (aA rfl) rfl (oL rfl KA K rfl (ds := [I e3.1, I e3.2]) rfl rfl 1 M rfl rfl rfl) ?_;clear K M; rintro _ a w M K;refine ⟨fun h => absurd h aE, ?_⟩;revert a;refine Su 3 ?_;replace M := M.drew;obtain ⟨_, h0, h⟩ := aB h;have h0 := xQ h0;refine cC 17 ?_;refine nX (fun _ K => vA rfl K rfl rfl h0) ?_;obtain ⟨x4, hx, h⟩ := eF h;refine ZW 0 hx ?_;exact cW 4 (M.pick [] aE)
theorem MH {N : Nat} {l2 : List (Int × Int)} {xN : Option Addr} {xO : Nat} {x2 : Int} {w0 : World} {r : Int × Int} (h : zB N l2 x2 = some r) (uR : SL w0 eI xN l2) (Hu : l2.length ≤ xO) :
  Calls Tryz.prog 109 #[.slice xN l2.length xO, I x2] w0 fun e w' => ∃ v, e = .returned v ∧ v = .tuple #[I r.1, I r.2] ∧ Mem w0.heap.size w0 w' [] := by
 refine gE Tryz.func109 Tryz.ntmps109 ?_;intro M;unfold zB at h;obtain ⟨r2, gR, h⟩ := aB h;refine mC 10 (MG gR ((eG uR) _ M) Hu) ?_;intro w M;refine fJ 3 h ?_ ?_
 ·intro hb h;exact iA 8 (M.pick [] aE)
 intro hb h;refine oT 8 11 h ?_ ?_
 ·intro hb h;exact iA 14 (M.pick [] aE)
 intro hb h;refine fJ 5 h ?_ ?_
 ·intro hb h;exact iA 8 (M.pick [] aE)
 intro hb h;obtain ⟨r3, lU, h⟩ := aB h;refine mC 6 (R6 lU ((eG uR) _ M) Hu) ?_;intro w M;exact iA 5 (M.pick [] aE)
theorem Ok {N : Nat} {n v0 v1 : Int} {GB Oh : Nat} {w0 : World} {r : Bool} (h : CF N n v0 v1 = some r) (MA : mM w0 GB 3 #[I v0]) (UW : mM w0 Oh 3 #[I v1]) :
  Calls Tryz.prog 158 #[I n, .pointer (some ⟨GB, 0, none⟩), .pointer (some ⟨Oh, 0, none⟩)] w0 fun e w' => ∃ v, e = .returned v ∧ v = .bool r ∧ Mem w0.heap.size w0 w' [] := by
 refine gE Tryz.func158 Tryz.ntmps158 ?_;intro M;unfold CF at h;refine oT 11 8 h ?_ ?_
 ·intro hb h;exact cW 8 (M.pick [] aE)
 intro hb h;exact cW 8 (M.pick [] aE)
theorem v6 {N : Nat} {s : List Int} {FA : Option Addr} {Gw : Nat} {AL AM : Int} {Co Cp : Nat} {w0 : World} {r : Int} (h : jC N s AL AM = some r) (JM : SL w0 (cI .i64) FA s) (UF : s.length ≤ Gw) (FX : mM w0 Co 3 #[I AL]) (FY : mM w0 Cp 3 #[I AM]) :
  Calls Tryz.prog 190 #[.slice FA s.length Gw, .func (.func 158) #[] #[.pointer (some ⟨Co, 0, none⟩), .pointer (some ⟨Cp, 0, none⟩)]] w0 fun e w' => ∃ v, e = .returned v ∧ v = I r ∧ Mem w0.heap.size w0 w' [] := by
 refine gE Tryz.func190 Tryz.ntmps190 ?_;intro M;unfold jC at h;refine u6 14 0 (fun (i : Int) a w => Kn a 19 [(0, .slice FA s.length Gw), (1, .func (.func 158) #[] #[.pointer (some ⟨Co, 0, none⟩), .pointer (some ⟨Cp, 0, none⟩)]), (7, I (s.length : Int)), (8, I i)] ∧ Mem w0.heap.size w0 w []) M.nQ ?_ ?_
 ·clear M h;rintro i2 a w ⟨K, M⟩ h;try dsimp only at h
  revert a;exact cW 8 (M.pick [] aE)
 clear M h;rintro kk fuel i a w hk1 ⟨K, M⟩ h;unfold eR at h;revert a;refine fJ 6 h ?_ ?_
 ·intro hb h;obtain ⟨e2, mP, h⟩ := aB h;refine cC 15 ?_;refine dI (fun _ K => jS rfl fU K rfl rfl (eG JM) mP) M ?_;refine dI (fun _ K => fK rfl nO K rfl rfl (eG JM) mP rfl) M ?_;obtain ⟨r3, lU, h⟩ := aB h;intro a K;refine jR K (p8 (vs := [I e2]) (cap := [.pointer (some ⟨Co, 0, none⟩), .pointer (some ⟨Cp, 0, none⟩)]) rfl Uu K rfl rfl (Ok lU (PP FX _ M) (PP FY _ M))) ?_;clear K; rintro _ a w ⟨rfl, Zq⟩ K;replace M := M.call Zq; clear Zq;revert a;refine fJ 2 h ?_ ?_
  ·intro hb h;exact cW 12 (M.pick [] aE)
  intro hb h;exact qK 8 (IntKind.i64.wrap (i + 1)) M.nQ
 intro hb h;exact rD 3 (hk1 i) M.nQ
theorem uL {N : Nat} {s : List Int} {FA : Option Addr} {Gw : Nat} {AL AM : Int} {Co Cp : Nat} {w0 : World} {r : Bool} (h : iL N s AL AM = some r) (JM : SL w0 (cI .i64) FA s) (UF : s.length ≤ Gw) (FX : mM w0 Co 3 #[I AL]) (FY : mM w0 Cp 3 #[I AM]) :
  Calls Tryz.prog 157 #[.slice FA s.length Gw, .func (.func 158) #[] #[.pointer (some ⟨Co, 0, none⟩), .pointer (some ⟨Cp, 0, none⟩)]] w0 fun e w' => ∃ v, e = .returned v ∧ v = .bool r ∧ Mem w0.heap.size w0 w' [] := by
 refine gE Tryz.func157 Tryz.ntmps157 ?_;intro M;unfold iL at h;obtain ⟨r2, gR, h⟩ := aB h;refine mC 9 (v6 gR ((eG JM) _ M) UF (PP FX _ M) (PP FY _ M)) ?_;intro w M;exact cW 5 (M.pick [] aE)
theorem yK {N : Nat} {low high : Int} {l2 : List Int} {xN : Option Addr} {xO : Nat} {w0 : World} {r : Bool} (h : rV N low high l2 = some r) (uR : SL w0 (cI .i64) xN l2) (Hu : l2.length ≤ xO) :
  Calls Tryz.prog 107 #[I low, I high, .slice xN l2.length xO] w0 fun e w' => ∃ v, e = .returned v ∧ v = .bool r ∧ Mem w0.heap.size w0 w' [] := by
 refine gE Tryz.func107 Tryz.ntmps107 ?_;intro M;unfold rV at h;refine u3 2 ?_;intro aEZ w M;refine u3 0 ?_;intro aEK w M;obtain ⟨r2, gR, h⟩ := aB h;refine mC 7 (uL gR ((eG uR) _ M) Hu (M.dV (i := 1) rfl) (M.dV (i := 0) rfl)) ?_;intro w M;exact cW 5 (M.pick [] aE)
theorem JW {N : Nat} {Sm Sn v0 v1 : Int} {GB Oh : Nat} {w0 : World} {r : Bool} (h : vE N Sm Sn v0 v1 = some r) (MA : mM w0 GB 3 #[I v0]) (UW : mM w0 Oh 3 #[I v1]) :
  Calls Tryz.prog 159 #[.agg #[I Sm, I Sn], .pointer (some ⟨GB, 0, none⟩), .pointer (some ⟨Oh, 0, none⟩)] w0 fun e w' => ∃ v, e = .returned v ∧ v = .bool r ∧ Mem w0.heap.size w0 w' [] := by
 refine gE Tryz.func159 Tryz.ntmps159 ?_;intro M;unfold vE at h;refine u3 2 ?_;intro g_s w M;refine cC 9 ?_;intro a K;refine jR K (cZ rfl fU z3 K (vs := [(0, I Sm)]) (cs := [I Sm]) rfl bE rfl rfl M) ?_;have M0 := M; clear K M; rintro _ a w ⟨gs, rfl, M⟩ K;replace M := M.iF 0 rfl (cI .i64) ([Sm] : List Int) (n := 1) rfl rfl rfl;clear M0;obtain ⟨r2, gR, h⟩ := aB h;revert a;refine mC 0 (yK gR ((iV (C := (cI .i64)) 0 rfl rfl) _ M) (M.cap 0 rfl)) ?_;intro w M;refine oT 2 12 h ?_ ?_
 ·intro hb h;exact cW 12 (M.pick [] aE)
 intro hb h;refine cC 4 ?_;intro a K;refine jR K (cZ rfl fU z3 K (vs := [(0, I Sn)]) (cs := [I Sn]) rfl bE rfl rfl M) ?_;have M0 := M; clear K M; rintro _ a w ⟨gs2, rfl, M⟩ K;replace M := M.iF 0 rfl (cI .i64) ([Sn] : List Int) (n := 1) rfl rfl rfl;clear M0;obtain ⟨r3, lU, h⟩ := aB h;revert a;refine mC 0 (yK lU ((iV (C := (cI .i64)) 0 rfl rfl) _ M) (M.cap 0 rfl)) ?_;intro w M;exact cW 6 (M.pick [] aE)
theorem rC {N : Nat} {s : List (Int × Int)} {FA : Option Addr} {Gw : Nat} {rW rX : Int} {v7 v8 : Nat} {w0 : World} {r : Int} (h : gA N s rW rX = some r) (JM : SL w0 eI FA s) (UF : s.length ≤ Gw) (CT : mM w0 v7 3 #[I rW]) (CU : mM w0 v8 3 #[I rX]) :
  Calls Tryz.prog 163 #[.slice FA s.length Gw, .func (.func 159) #[] #[.pointer (some ⟨v7, 0, none⟩), .pointer (some ⟨v8, 0, none⟩)]] w0 fun e w' => ∃ v, e = .returned v ∧ v = I r ∧ Mem w0.heap.size w0 w' [] := by
 refine gE Tryz.func163 Tryz.ntmps163 ?_;intro M;unfold gA at h;refine u6 14 0 (fun (i : Int) a w => Kn a 19 [(0, .slice FA s.length Gw), (1, .func (.func 159) #[] #[.pointer (some ⟨v7, 0, none⟩), .pointer (some ⟨v8, 0, none⟩)]), (7, I (s.length : Int)), (8, I i)] ∧ Mem w0.heap.size w0 w []) M.nQ ?_ ?_
 ·clear M h;rintro i2 a w ⟨K, M⟩ h;try dsimp only at h
  revert a;exact cW 8 (M.pick [] aE)
 clear M h;rintro kk fuel i a w hk1 ⟨K, M⟩ h;unfold dE at h;revert a;refine fJ 6 h ?_ ?_
 ·intro hb h;obtain ⟨e2, mP, h⟩ := aB h;refine cC 15 ?_;refine dI (fun _ K => jS rfl Ai K rfl rfl (eG JM) mP) M ?_;refine dI (fun _ K => BQ rfl RY K rfl rfl rfl (eG JM) mP) M ?_;obtain ⟨r3, lU, h⟩ := aB h;intro a K;refine jR K (p8 (vs := [.agg #[I e2.1, I e2.2]]) (cap := [.pointer (some ⟨v7, 0, none⟩), .pointer (some ⟨v8, 0, none⟩)]) rfl Uv K rfl rfl (JW lU (PP CT _ M) (PP CU _ M))) ?_;clear K; rintro _ a w ⟨rfl, Zq⟩ K;replace M := M.call Zq; clear Zq;revert a;refine fJ 2 h ?_ ?_
  ·intro hb h;exact cW 12 (M.pick [] aE)
  intro hb h;exact qK 8 (IntKind.i64.wrap (i + 1)) M.nQ
 intro hb h;exact rD 3 (hk1 i) M.nQ
theorem qL {N : Nat} {s : List (Int × Int)} {FA : Option Addr} {Gw : Nat} {rW rX : Int} {v7 v8 : Nat} {w0 : World} {r : Bool} (h : fL N s rW rX = some r) (JM : SL w0 eI FA s) (UF : s.length ≤ Gw) (CT : mM w0 v7 3 #[I rW]) (CU : mM w0 v8 3 #[I rX]) :
  Calls Tryz.prog 119 #[.slice FA s.length Gw, .func (.func 159) #[] #[.pointer (some ⟨v7, 0, none⟩), .pointer (some ⟨v8, 0, none⟩)]] w0 fun e w' => ∃ v, e = .returned v ∧ v = .bool r ∧ Mem w0.heap.size w0 w' [] := by
 refine gE Tryz.func119 Tryz.ntmps119 ?_;intro M;unfold fL at h;obtain ⟨r2, gR, h⟩ := aB h;refine mC 9 (rC gR ((eG JM) _ M) UF (PP CT _ M) (PP CU _ M)) ?_;intro w M;exact cW 5 (M.pick [] aE)
theorem MI {N : Nat} {l2 : List (Int × Int)} {xN : Option Addr} {xO : Nat} {w2 h2 : Int} {w0 : World} {r : Bool} (h : zA N l2 w2 h2 = some r) (uR : SL w0 eI xN l2) (Hu : l2.length ≤ xO) :
  Calls Tryz.prog 108 #[.slice xN l2.length xO, I w2, I h2] w0 fun e w' => ∃ v, e = .returned v ∧ v = .bool r ∧ Mem w0.heap.size w0 w' [] := by
 refine gE Tryz.func108 Tryz.ntmps108 ?_;intro M;unfold zA at h;refine u3 2 ?_;intro Aj w M;refine u3 0 ?_;intro g_h w M;obtain ⟨r2, gR, h⟩ := aB h;refine mC 7 (qL gR ((eG uR) _ M) Hu (M.dV (i := 1) rfl) (M.dV (i := 0) rfl)) ?_;intro w M;exact cW 5 (M.pick [] aE)
theorem MJ {N : Nat} {na nb0 nb1 nb2 nb3 nc : Int} {nd : List (Int × Int)} {And : Option Addr} {cnd : Nat} {Zx ne1 ne2 nf0 nf1 nf2 nf3 nf4 nf5 nf6 nf7 nf8 : Int} {ng : List (Int × Int)} {Ang : Option Addr} {cng : Nat} {nh : Int} {w0 : World} {r : Int} (h : zC N na nb0 nb1 nb2 nb3 nc nd Zx ne1 ne2 nf0 nf1 nf2 nf3 nf4 nf5 nf6 nf7 nf8 ng nh = some r) (Rnd : SL w0 eI And nd) (Cnd : nd.length ≤ cnd) (Rng : SL w0 eI Ang ng) (Cng : ng.length ≤ cng) :
  Calls Tryz.prog 35 #[.agg #[I na, I nb0, I nb1, I nb2, I nb3, I nc, .slice And nd.length cnd, I Zx, I ne1, I ne2, I nf0, I nf1, I nf2, I nf3, I nf4, I nf5, I nf6, I nf7, I nf8, .slice Ang ng.length cng, I nh]] w0 fun e w' => ∃ v, e = .returned v ∧ v = I r ∧ Mem w0.heap.size w0 w' [] := by
 refine gE Tryz.func35 Tryz.ntmps35 ?_;intro M;unfold zC at h;refine u3 2 ?_;intro g_n w M;refine cC 5 ?_;intro a K;refine dC (fun w => Mem _ _ w _) [0,0,1,1,1,1,1,1,1,1,1,1,1,0,0,0,1,1,1,1,1,1,1,1,1,1,1,1,1,1,1,1,1,1,1,1,1,1,1,1,1,1,1,1,1,1,1,1,1,1,0,0] bE bE M.drew ?_;replace M := M.drew;revert a;refine cC 2 ?_;intro a K;refine wH K (cZ rfl fU z3 K (vs := [(0, I na)]) (cs := [I na]) rfl bE rfl rfl M) ?_;have M0 := M; clear K M; rintro _ a w ⟨gs, rfl, M⟩ K;replace M := M.iF 0 rfl (cI .i64) ([na] : List Int) (n := 1) rfl rfl rfl;clear M0;refine ⟨M.pick [1] aE, ?_⟩;obtain ⟨r2, gR, h⟩ := aB h;refine wH K (lJ FR K (yK gR ((iV (C := (cI .i64)) 0 rfl rfl) _ M) (M.cap 0 rfl))) ?_;clear K; rintro _ a w ⟨rfl, Zq⟩ K;replace M := M.call Zq; clear Zq;refine ⟨M.pick [1] aE, ?_⟩;refine dR K (aA rfl) rfl rfl (rd_not rfl K rfl) M (M.pick [1] aE) ?_; clear K; intro a K;refine dR K (aA rfl) rfl rfl (dL rfl K rfl) M (M.pick [1] aE) ?_; clear K; intro a K;revert a;refine oT 0 10 h ?_ ?_
 ·intro hb h;intro a K;iterate 5 (refine kR K (K.no rfl rfl rfl rfl) rfl rfl (M.pick [1] aE) ?_; clear K; intro a K)
  refine dR K (aA rfl) rfl rfl (jA rfl K rfl rfl) M (M.pick [1] aE) ?_; clear K; intro a K;refine dR K (aA rfl) rfl rfl (dL rfl K rfl) M (M.pick [1] aE) ?_; clear K; intro a K;revert a;refine cC 3 ?_;intro a K;iterate 4 (refine kR K (K.no rfl rfl rfl rfl) rfl rfl (M.pick [1] aE) ?_; clear K; intro a K)
  refine dR K (aA rfl) rfl rfl (jA rfl K rfl rfl) M (M.pick [1] aE) ?_; clear K; intro a K;refine dR K (aA rfl) rfl rfl (dL rfl K rfl) M (M.pick [1] aE) ?_; clear K; intro a K;iterate 4 (refine kR K (K.no rfl rfl rfl rfl) rfl rfl (M.pick [1] aE) ?_; clear K; intro a K)
  refine dR K (aA rfl) rfl rfl (jA rfl K rfl rfl) M (M.pick [1] aE) ?_; clear K; intro a K;refine dR K (aA rfl) rfl rfl (dL rfl K rfl) M (M.pick [1] aE) ?_; clear K; intro a K;iterate 4 (refine kR K (K.no rfl rfl rfl rfl) rfl rfl (M.pick [1] aE) ?_; clear K; intro a K)
  refine dR K (aA rfl) rfl rfl (jA rfl K rfl rfl) M (M.pick [1] aE) ?_; clear K; intro a K;refine dR K (aA rfl) rfl rfl (dL rfl K rfl) M (M.pick [1] aE) ?_; clear K; intro a K;iterate 4 (refine kR K (K.no rfl rfl rfl rfl) rfl rfl (M.pick [1] aE) ?_; clear K; intro a K)
  refine dR K (aA rfl) rfl rfl (jA rfl K rfl rfl) M (M.pick [1] aE) ?_; clear K; intro a K;refine dR K (aA rfl) rfl rfl (dL rfl K rfl) M (M.pick [1] aE) ?_; clear K; intro a K;iterate 4 (refine kR K (K.no rfl rfl rfl rfl) rfl rfl (M.pick [1] aE) ?_; clear K; intro a K)
  refine dR K (aA rfl) rfl rfl (jA rfl K rfl rfl) M (M.pick [1] aE) ?_; clear K; intro a K;refine dR K (aA rfl) rfl rfl (dL rfl K rfl) M (M.pick [1] aE) ?_; clear K; intro a K;iterate 4 (refine kR K (K.no rfl rfl rfl rfl) rfl rfl (M.pick [1] aE) ?_; clear K; intro a K)
  revert a;exact cW 12 (M.pick [] aE)
 intro hb h;intro a K;refine dR K (K.yes rfl rfl rfl) rfl rfl (dJ rfl IV K rfl) M (M.pick [1] aE) ?_; clear K; intro a K;refine dR K (K.yes rfl rfl rfl) rfl rfl (eC rfl nO K rfl (oY 1 rfl) rfl) M (M.pick [1] aE) ?_; clear K; intro a K;refine wH K (cZ rfl fU z3 K (vs := [(0, I nc)]) (cs := [I nc]) rfl bE rfl rfl M) ?_;have M0 := M; clear K M; rintro _ a w ⟨gs2, rfl, M⟩ K;replace M := M.iF 0 rfl (cI .i64) ([nc] : List Int) (n := 1) rfl rfl rfl;clear M0;refine ⟨M.pick [2] aE, ?_⟩;obtain ⟨r3, lU, h⟩ := aB h;refine wH K (lJ FR K (yK lU ((iV (C := (cI .i64)) 0 rfl rfl) _ M) (M.cap 0 rfl))) ?_;clear K; rintro _ a w ⟨rfl, Zq⟩ K;replace M := M.call Zq; clear Zq;refine ⟨M.pick [2] aE, ?_⟩;refine dR K (K.yes rfl rfl rfl) rfl rfl (rd_not rfl K rfl) M (M.pick [2] aE) ?_; clear K; intro a K;refine dR K (aA rfl) rfl rfl (mD rfl K rfl rfl) M (M.pick [2] aE) ?_; clear K; intro a K;refine dR K (aA rfl) rfl rfl (dL rfl K rfl) M (M.pick [2] aE) ?_; clear K; intro a K;revert a;refine oT 0 17 h ?_ ?_
 ·intro hb h;refine cC 3 ?_;intro a K;iterate 4 (refine kR K (K.no rfl rfl rfl rfl) rfl rfl (M.pick [2] aE) ?_; clear K; intro a K)
  refine dR K (aA rfl) rfl rfl (jA rfl K rfl rfl) M (M.pick [2] aE) ?_; clear K; intro a K;refine dR K (aA rfl) rfl rfl (dL rfl K rfl) M (M.pick [2] aE) ?_; clear K; intro a K;iterate 4 (refine kR K (K.no rfl rfl rfl rfl) rfl rfl (M.pick [2] aE) ?_; clear K; intro a K)
  refine dR K (aA rfl) rfl rfl (jA rfl K rfl rfl) M (M.pick [2] aE) ?_; clear K; intro a K;refine dR K (aA rfl) rfl rfl (dL rfl K rfl) M (M.pick [2] aE) ?_; clear K; intro a K;iterate 4 (refine kR K (K.no rfl rfl rfl rfl) rfl rfl (M.pick [2] aE) ?_; clear K; intro a K)
  refine dR K (aA rfl) rfl rfl (jA rfl K rfl rfl) M (M.pick [2] aE) ?_; clear K; intro a K;refine dR K (aA rfl) rfl rfl (dL rfl K rfl) M (M.pick [2] aE) ?_; clear K; intro a K;iterate 4 (refine kR K (K.no rfl rfl rfl rfl) rfl rfl (M.pick [2] aE) ?_; clear K; intro a K)
  refine dR K (aA rfl) rfl rfl (jA rfl K rfl rfl) M (M.pick [2] aE) ?_; clear K; intro a K;refine dR K (aA rfl) rfl rfl (dL rfl K rfl) M (M.pick [2] aE) ?_; clear K; intro a K;iterate 4 (refine kR K (K.no rfl rfl rfl rfl) rfl rfl (M.pick [2] aE) ?_; clear K; intro a K)
  refine dR K (aA rfl) rfl rfl (jA rfl K rfl rfl) M (M.pick [2] aE) ?_; clear K; intro a K;refine dR K (aA rfl) rfl rfl (dL rfl K rfl) M (M.pick [2] aE) ?_; clear K; intro a K;iterate 4 (refine kR K (K.no rfl rfl rfl rfl) rfl rfl (M.pick [2] aE) ?_; clear K; intro a K)
  revert a;exact cW 12 (M.pick [] aE)
 intro hb h;refine cC 3 ?_;intro a K;refine dR K (K.yes rfl rfl rfl) rfl rfl (dJ rfl IU K rfl) M (M.pick [2] aE) ?_; clear K; intro a K;refine dR K (K.yes rfl rfl rfl) rfl rfl (qY rfl Ho yT K rfl) M (M.pick [2] aE) ?_; clear K; intro a K;obtain ⟨r4, pZ, h⟩ := aB h;refine wH K (lJ FR K (yK pZ ((fun w M => Hk (C := (cI .i64)) (xs := [nb0, nb1, nb2, nb3]) rfl ((oY 2 rfl) w M)) _ M) (Nat.le_refl _))) ?_;clear K; rintro _ a w ⟨rfl, Zq⟩ K;replace M := M.call Zq; clear Zq;refine ⟨M.pick [2] aE, ?_⟩;refine dR K (K.yes rfl rfl rfl) rfl rfl (rd_not rfl K rfl) M (M.pick [2] aE) ?_; clear K; intro a K;refine dR K (aA rfl) rfl rfl (mD rfl K rfl rfl) M (M.pick [2] aE) ?_; clear K; intro a K;refine dR K (aA rfl) rfl rfl (dL rfl K rfl) M (M.pick [2] aE) ?_; clear K; intro a K;revert a;refine oT 0 26 h ?_ ?_
 ·intro hb h;intro a K;iterate 4 (refine kR K (K.no rfl rfl rfl rfl) rfl rfl (M.pick [2] aE) ?_; clear K; intro a K)
  refine dR K (aA rfl) rfl rfl (jA rfl K rfl rfl) M (M.pick [2] aE) ?_; clear K; intro a K;refine dR K (aA rfl) rfl rfl (dL rfl K rfl) M (M.pick [2] aE) ?_; clear K; intro a K;iterate 4 (refine kR K (K.no rfl rfl rfl rfl) rfl rfl (M.pick [2] aE) ?_; clear K; intro a K)
  refine dR K (aA rfl) rfl rfl (jA rfl K rfl rfl) M (M.pick [2] aE) ?_; clear K; intro a K;refine dR K (aA rfl) rfl rfl (dL rfl K rfl) M (M.pick [2] aE) ?_; clear K; intro a K;iterate 4 (refine kR K (K.no rfl rfl rfl rfl) rfl rfl (M.pick [2] aE) ?_; clear K; intro a K)
  refine dR K (aA rfl) rfl rfl (jA rfl K rfl rfl) M (M.pick [2] aE) ?_; clear K; intro a K;refine dR K (aA rfl) rfl rfl (dL rfl K rfl) M (M.pick [2] aE) ?_; clear K; intro a K;iterate 4 (refine kR K (K.no rfl rfl rfl rfl) rfl rfl (M.pick [2] aE) ?_; clear K; intro a K)
  refine dR K (aA rfl) rfl rfl (jA rfl K rfl rfl) M (M.pick [2] aE) ?_; clear K; intro a K;refine dR K (aA rfl) rfl rfl (dL rfl K rfl) M (M.pick [2] aE) ?_; clear K; intro a K;iterate 4 (refine kR K (K.no rfl rfl rfl rfl) rfl rfl (M.pick [2] aE) ?_; clear K; intro a K)
  revert a;exact cW 12 (M.pick [] aE)
 intro hb h;intro a K;refine dR K (K.yes rfl rfl rfl) rfl rfl (dJ rfl xW K rfl) M (M.pick [2] aE) ?_; clear K; intro a K;refine dR K (K.yes rfl rfl rfl) rfl rfl (eC rfl El K rfl (oY 2 rfl) rfl) M (M.pick [2] aE) ?_; clear K; intro a K;refine dR K (K.yes rfl rfl rfl) rfl rfl (DC rfl Wq K rfl) M (M.pick [2] aE) ?_; clear K; intro a K;refine dR K (K.yes rfl rfl rfl) rfl rfl (GZ rfl K rfl rfl) M (M.pick [2] aE) ?_; clear K; intro a K;refine dR K (aA rfl) rfl rfl (mD rfl K rfl rfl) M (M.pick [2] aE) ?_; clear K; intro a K;refine dR K (aA rfl) rfl rfl (dL rfl K rfl) M (M.pick [2] aE) ?_; clear K; intro a K;revert a;refine oT 0 32 h ?_ ?_
 ·intro hb h;intro a K;iterate 4 (refine kR K (K.no rfl rfl rfl rfl) rfl rfl (M.pick [2] aE) ?_; clear K; intro a K)
  refine dR K (aA rfl) rfl rfl (jA rfl K rfl rfl) M (M.pick [2] aE) ?_; clear K; intro a K;refine dR K (aA rfl) rfl rfl (dL rfl K rfl) M (M.pick [2] aE) ?_; clear K; intro a K;iterate 4 (refine kR K (K.no rfl rfl rfl rfl) rfl rfl (M.pick [2] aE) ?_; clear K; intro a K)
  refine dR K (aA rfl) rfl rfl (jA rfl K rfl rfl) M (M.pick [2] aE) ?_; clear K; intro a K;refine dR K (aA rfl) rfl rfl (dL rfl K rfl) M (M.pick [2] aE) ?_; clear K; intro a K;iterate 4 (refine kR K (K.no rfl rfl rfl rfl) rfl rfl (M.pick [2] aE) ?_; clear K; intro a K)
  refine dR K (aA rfl) rfl rfl (jA rfl K rfl rfl) M (M.pick [2] aE) ?_; clear K; intro a K;refine dR K (aA rfl) rfl rfl (dL rfl K rfl) M (M.pick [2] aE) ?_; clear K; intro a K;iterate 4 (refine kR K (K.no rfl rfl rfl rfl) rfl rfl (M.pick [2] aE) ?_; clear K; intro a K)
  revert a;exact cW 12 (M.pick [] aE)
 intro hb h;intro a K;refine dR K (K.yes rfl rfl rfl) rfl rfl (dJ rfl xW K rfl) M (M.pick [2] aE) ?_; clear K; intro a K;refine dR K (K.yes rfl rfl rfl) rfl rfl (eC rfl El K rfl (oY 2 rfl) rfl) M (M.pick [2] aE) ?_; clear K; intro a K;obtain ⟨r5, t7, h⟩ := aB h;refine wH K (lJ Up K (MI t7 ((eG Rnd) _ M) Cnd)) ?_;clear K; rintro _ a w ⟨rfl, Zq⟩ K;replace M := M.call Zq; clear Zq;refine ⟨M.pick [2] aE, ?_⟩;refine dR K (K.yes rfl rfl rfl) rfl rfl (rd_not rfl K rfl) M (M.pick [2] aE) ?_; clear K; intro a K;refine dR K (aA rfl) rfl rfl (mD rfl K rfl rfl) M (M.pick [2] aE) ?_; clear K; intro a K;refine dR K (aA rfl) rfl rfl (dL rfl K rfl) M (M.pick [2] aE) ?_; clear K; intro a K;revert a;refine oT 0 38 h ?_ ?_
 ·intro hb h;intro a K;iterate 4 (refine kR K (K.no rfl rfl rfl rfl) rfl rfl (M.pick [2] aE) ?_; clear K; intro a K)
  refine dR K (aA rfl) rfl rfl (jA rfl K rfl rfl) M (M.pick [2] aE) ?_; clear K; intro a K;refine dR K (aA rfl) rfl rfl (dL rfl K rfl) M (M.pick [2] aE) ?_; clear K; intro a K;iterate 4 (refine kR K (K.no rfl rfl rfl rfl) rfl rfl (M.pick [2] aE) ?_; clear K; intro a K)
  refine dR K (aA rfl) rfl rfl (jA rfl K rfl rfl) M (M.pick [2] aE) ?_; clear K; intro a K;refine dR K (aA rfl) rfl rfl (dL rfl K rfl) M (M.pick [2] aE) ?_; clear K; intro a K;iterate 4 (refine kR K (K.no rfl rfl rfl rfl) rfl rfl (M.pick [2] aE) ?_; clear K; intro a K)
  revert a;exact cW 12 (M.pick [] aE)
 intro hb h;intro a K;refine dR K (K.yes rfl rfl rfl) rfl rfl (dJ rfl IW K rfl) M (M.pick [2] aE) ?_; clear K; intro a K;refine dR K (K.yes rfl rfl rfl) rfl rfl (qY rfl JI yT K rfl) M (M.pick [2] aE) ?_; clear K; intro a K;obtain ⟨r6, xZ, h⟩ := aB h;refine wH K (lJ FR K (yK xZ ((fun w M => Hk (C := (cI .i64)) (xs := [Zx, ne1, ne2]) rfl ((oY 2 rfl) w M)) _ M) (Nat.le_refl _))) ?_;clear K; rintro _ a w ⟨rfl, Zq⟩ K;replace M := M.call Zq; clear Zq;refine ⟨M.pick [2] aE, ?_⟩;refine dR K (K.yes rfl rfl rfl) rfl rfl (rd_not rfl K rfl) M (M.pick [2] aE) ?_; clear K; intro a K;refine dR K (aA rfl) rfl rfl (mD rfl K rfl rfl) M (M.pick [2] aE) ?_; clear K; intro a K;refine dR K (aA rfl) rfl rfl (dL rfl K rfl) M (M.pick [2] aE) ?_; clear K; intro a K;revert a;refine oT 0 44 h ?_ ?_
 ·intro hb h;intro a K;iterate 4 (refine kR K (K.no rfl rfl rfl rfl) rfl rfl (M.pick [2] aE) ?_; clear K; intro a K)
  refine dR K (aA rfl) rfl rfl (jA rfl K rfl rfl) M (M.pick [2] aE) ?_; clear K; intro a K;refine dR K (aA rfl) rfl rfl (dL rfl K rfl) M (M.pick [2] aE) ?_; clear K; intro a K;iterate 4 (refine kR K (K.no rfl rfl rfl rfl) rfl rfl (M.pick [2] aE) ?_; clear K; intro a K)
  revert a;exact cW 12 (M.pick [] aE)
 intro hb h;intro a K;refine dR K (K.yes rfl rfl rfl) rfl rfl (dJ rfl IX K rfl) M (M.pick [2] aE) ?_; clear K; intro a K;refine dR K (K.yes rfl rfl rfl) rfl rfl (qY rfl FQ yT K rfl) M (M.pick [2] aE) ?_; clear K; intro a K;obtain ⟨r7, Ba, h⟩ := aB h;refine wH K (lJ FR K (yK Ba ((fun w M => Hk (C := (cI .i64)) (xs := [nf0, nf1, nf2, nf3, nf4, nf5, nf6, nf7, nf8]) rfl ((oY 2 rfl) w M)) _ M) (Nat.le_refl _))) ?_;clear K; rintro _ a w ⟨rfl, Zq⟩ K;replace M := M.call Zq; clear Zq;refine ⟨M.pick [2] aE, ?_⟩;refine dR K (K.yes rfl rfl rfl) rfl rfl (rd_not rfl K rfl) M (M.pick [2] aE) ?_; clear K; intro a K;refine dR K (aA rfl) rfl rfl (mD rfl K rfl rfl) M (M.pick [2] aE) ?_; clear K; intro a K;refine dR K (aA rfl) rfl rfl (dL rfl K rfl) M (M.pick [2] aE) ?_; clear K; intro a K;revert a;refine oT 0 50 h ?_ ?_
 ·intro hb h;intro a K;iterate 4 (refine kR K (K.no rfl rfl rfl rfl) rfl rfl (M.pick [2] aE) ?_; clear K; intro a K)
  revert a;exact cW 12 (M.pick [] aE)
 intro hb h;intro a K;refine dR K (K.yes rfl rfl rfl) rfl rfl (dJ rfl IY K rfl) M (M.pick [2] aE) ?_; clear K; intro a K;refine dR K (K.yes rfl rfl rfl) rfl rfl (eC rfl nO K rfl (oY 2 rfl) rfl) M (M.pick [2] aE) ?_; clear K; intro a K;refine wH K (cZ rfl fU z3 K (vs := [(0, I nh)]) (cs := [I nh]) rfl bE rfl rfl M) ?_;have M0 := M; clear K M; rintro _ a w ⟨QG, rfl, M⟩ K;replace M := M.iF 0 rfl (cI .i64) ([nh] : List Int) (n := 1) rfl rfl rfl;clear M0;refine ⟨M.pick [3] aE, ?_⟩;obtain ⟨r8, CV, h⟩ := aB h;refine wH K (lJ FR K (yK CV ((iV (C := (cI .i64)) 0 rfl rfl) _ M) (M.cap 0 rfl))) ?_;clear K; rintro _ a w ⟨rfl, Zq⟩ K;replace M := M.call Zq; clear Zq;refine ⟨M.pick [3] aE, ?_⟩;revert a;refine fJ 4 h ?_ ?_
 ·intro hb h;exact cW 7 (M.pick [] aE)
 intro hb h;obtain ⟨r9, JX, h⟩ := aB h;refine mC 6 (MH JX ((eG Rng) _ M) Cng) ?_;intro w M;exact cW 14 (M.pick [] aE)
theorem Iq {gr ge : Nat} (w : World) :
  CallsD Tryz.prog 83 #[.pointer (some ⟨gr, 0, none⟩), .pointer (some ⟨ge, 0, none⟩)] .returning w fun e u' w' => e = .returned (.tuple #[]) ∧ u' = .returning ∧ w' = w := by
 refine callsD_of_wpS Tryz.func83 rfl fun c₀ cs hu => ?_
 apply wpS_seq
 apply wpS_region
 simp [wpOpsS, go_sem, recoverD, hu, Tryz.ntmps83, Exit.thenS]
 refine wpS_cond (t := false) (by simp [Act.eval, Array.replicate]) ?_;simp only [Bool.false_eq_true, if_false];refine wpS_of_wp (wp_skip ?_);cases c₀
 simp_all [bodyPostS, results, Tryz.results83]
theorem dD {gr ge base : Nat} {W w : World} {cs : List Value} (M : Mem base W w [.blk gr 37 cs, .blk ge 38 [.int .i64 0]]) (hcs : cs.length = 28) :
  CallsD Tryz.prog 83 #[.pointer (some ⟨gr, 0, none⟩), .pointer (some ⟨ge, 0, none⟩)] (.panicking [{ v := .iface 137 (.agg #[]), recovered := false }]) w fun e u' w' =>
   e = .returned (.tuple #[]) ∧ u' = .panicking [{ v := .iface 137 (.agg #[]), recovered := true }] ∧ Mem base W w' [.blk gr 37 [.int .i64 0, .int .i64 0, .int .i64 0, .int .i64 0, .int .i64 0, .slice none 0 0, .slice none 0 0, .int .i64 0, .int .i64 0, .int .i64 0, .int .i64 0, .int .i64 0, .int .i64 0, .slice none 0 0, .int .i64 0, .int .i64 0, .int .i64 0, .int .i64 0, .int .i64 0, .int .i64 0, .int .i64 0, .int .i64 0, .int .i64 0, .int .i64 0, .int .i64 0, .int .i64 0, .slice none 0 0, .int .i64 0], .blk ge 38 [.int .i64 1]] := by
 refine callsD_of_wpS Tryz.func83 rfl fun c₀ cs₀ hu => ?_
 apply wpS_seq
 apply wpS_region
 simp [wpOpsS, go_sem, recoverD, hu, Tryz.ntmps83, Exit.thenS]
 refine wpS_cond (t := true) (by simp [Act.eval, Array.replicate]) ?_;simp only [if_true];refine wpS_of_wp ?_
 generalize hA : (Act.mk _ _ : Act) = a
 have K : Kn a 5 [(0, .pointer (some ⟨gr, 0, none⟩)), (1, .pointer (some ⟨ge, 0, none⟩))] := by
  subst hA;refine ⟨rfl, by simp, fun s v hs => ?_⟩
  rcases s with _ | _ | s
  ·cases hs; rfl
  ·cases hs; rfl
  ·cases hs
 refine bI ?_;refine Vu K (aA rfl) rfl rfl (eX rfl K (vs := []) (cs := [.int .i64 0, .int .i64 0, .int .i64 0, .int .i64 0, .int .i64 0, .slice none 0 0, .slice none 0 0, .int .i64 0, .int .i64 0, .int .i64 0, .int .i64 0, .int .i64 0, .int .i64 0, .slice none 0 0, .int .i64 0, .int .i64 0, .int .i64 0, .int .i64 0, .int .i64 0, .int .i64 0, .int .i64 0, .int .i64 0, .int .i64 0, .int .i64 0, .int .i64 0, .int .i64 0, .slice none 0 0, .int .i64 0]) rfl (by kernel_rfl)) M ?_; clear K; intro a K;refine Yf K (aA rfl) rfl (oL rfl rB K rfl (ds := [.int .i64 0, .int .i64 0, .int .i64 0, .int .i64 0, .int .i64 0, .slice none 0 0, .slice none 0 0, .int .i64 0, .int .i64 0, .int .i64 0, .int .i64 0, .int .i64 0, .int .i64 0, .slice none 0 0, .int .i64 0, .int .i64 0, .int .i64 0, .int .i64 0, .int .i64 0, .int .i64 0, .int .i64 0, .int .i64 0, .int .i64 0, .int .i64 0, .int .i64 0, .int .i64 0, .slice none 0 0, .int .i64 0]) rfl rfl 0 M rfl rfl hcs) ?_;clear K M; rintro _ a w M K;refine Yf K (aA rfl) rfl (cA rfl wM K rfl rfl rfl 1 M rfl rfl) ?_;clear K M; rintro _ a w M K;refine wpList_nil ?_;cases c₀
 simp_all [bodyPostS, results, Tryz.results83, K.defs]
end
end Go.Proofs.YtpmnfhifmmfglacGreatDoor
