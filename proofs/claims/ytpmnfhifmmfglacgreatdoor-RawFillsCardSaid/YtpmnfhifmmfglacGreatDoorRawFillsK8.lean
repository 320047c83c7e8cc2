/- Texts of the claim RawFills, joined and made small by a program. -/
import Derived.Shelf.Strings.Builder1
import Derived.Shelf.Strings.Count
import Derived.Shelf.Strings.Search3
import Derived.Shelf.Strings.SlTrimAscii
import Derived.Test.YtpmnfhifmmfglacGreatDoorProg
import Derived.Test.YtpmnfhifmmfglacGreatDoorRawFillsK4
import Derived.Test.YtpmnfhifmmfglacGreatDoorRawFillsK5
import Derived.Test.YtpmnfhifmmfglacGreatDoorRawFillsK7
set_option linter.unusedVariables false
set_option linter.unusedSimpArgs false
set_option linter.unusedSectionVars false
set_option maxRecDepth 100000
set_option maxHeartbeats 8000000
namespace Go.Proofs.YtpmnfhifmmfglacGreatDoor
section
open Go.RowKit
theorem B2 {N : Nat} {w0 : World} {r : Int × Int × Int × Int × Int × Int × List (Int × Int) × Int × Int × Int × Int × Int × Int × Int × Int × Int × Int × Int × Int × List (Int × Int) × Int} (h : sC N  = some r) :
  Calls Tryz.prog 72 #[] w0 fun e w' => ∃ v, e = .returned v ∧ ∃ A6 c6 Ns c19, v = .agg #[I r.1, I r.2.1, I r.2.2.1, I r.2.2.2.1, I r.2.2.2.2.1, I r.2.2.2.2.2.1, .slice A6 r.2.2.2.2.2.2.1.length c6, I r.2.2.2.2.2.2.2.1, I r.2.2.2.2.2.2.2.2.1, I r.2.2.2.2.2.2.2.2.2.1, I r.2.2.2.2.2.2.2.2.2.2.1, I r.2.2.2.2.2.2.2.2.2.2.2.1, I r.2.2.2.2.2.2.2.2.2.2.2.2.1, I r.2.2.2.2.2.2.2.2.2.2.2.2.2.1, I r.2.2.2.2.2.2.2.2.2.2.2.2.2.2.1, I r.2.2.2.2.2.2.2.2.2.2.2.2.2.2.2.1, I r.2.2.2.2.2.2.2.2.2.2.2.2.2.2.2.2.1, I r.2.2.2.2.2.2.2.2.2.2.2.2.2.2.2.2.2.1, I r.2.2.2.2.2.2.2.2.2.2.2.2.2.2.2.2.2.2.1, .slice Ns r.2.2.2.2.2.2.2.2.2.2.2.2.2.2.2.2.2.2.2.1.length c19, I r.2.2.2.2.2.2.2.2.2.2.2.2.2.2.2.2.2.2.2.2] ∧ Mem w0.heap.size w0 w' [.row 92 2 A6 r.2.2.2.2.2.2.1.length c6 (fC.all r.2.2.2.2.2.2.1), .row 47 2 Ns r.2.2.2.2.2.2.2.2.2.2.2.2.2.2.2.2.2.2.2.1.length c19 (fC.all r.2.2.2.2.2.2.2.2.2.2.2.2.2.2.2.2.2.2.2.1)] := by
 refine cR Tryz.func72 rfl Tryz.ntmps72 rfl ?_;intro a K;have M := Mem.start w0;have K : Kn a 5 [] := K;unfold sC at h;refine wp_seq (aB ?_);refine eB K (fV rfl z28 M) ?_;clear K M; rintro _ a w ⟨gS, rfl, M⟩ K;refine aJ (aA (wp_seq (aB ?_)));refine dU K (dK rfl K (vs := [(0, I 256), (1, I 256), (2, I 256)]) (cs := [I 256, I 256, I 256]) rfl cU) M ?_; clear K;refine bA (fun _ K => dK rfl K (vs := [(0, I 4096), (1, I 0), (2, I 0), (3, I 0), (4, I 4096), (5, I 0), (6, I 0), (7, I 0), (8, I 4096)]) (cs := [I 4096, I 0, I 0, I 0, I 4096, I 0, I 0, I 0, I 4096]) rfl cU) M ?_; intro a K;obtain ⟨r2, hU, h⟩ := aF h;refine eB K (gF S7 K (B1 hU)) ?_;clear K; rintro _ a w ⟨A, c, rfl, Zq⟩ K;replace M := M.call Zq; clear Zq;refine dU K (dK rfl K (vs := [(2, I 65535), (4, .agg #[I 256, I 256, I 256]), (5, .agg #[I 4096, I 0, I 0, I 0, I 4096, I 0, I 0, I 0, I 4096]), (6, .slice A r2.length c), (7, I 64)]) (cs := [I 0, I 0, I 0, I 0, I 0, I 65535, .slice none (([] : List (Int × Int))).length 0, I 256, I 256, I 256, I 4096, I 0, I 0, I 0, I 4096, I 0, I 0, I 0, I 4096, .slice A r2.length c, I 64]) rfl cU) M ?_; clear K; intro a K;refine mD K (dE rfl I0 K rfl (ds := [I 0, I 0, I 0, I 0, I 0, I 65535, .slice none (([] : List (Int × Int))).length 0, I 256, I 256, I 256, I 4096, I 0, I 0, I 0, I 4096, I 0, I 0, I 0, I 4096, .slice A r2.length c, I 64]) rfl rfl 1 M rfl rfl rfl) ?_;clear K M; rintro _ a w M K;refine aJ (aA (wp_ret ?_));cases h;exact dD K rfl (dC K rfl I0 (M.eA (i := 1) rfl) rfl) ⟨_, rfl, _, _, _, _, rfl, (((Mem.aS 92 2 fC M)).pick [0,1] aL)⟩
theorem wH {N : Nat} {w0 : World} {r : Int × Int × List Int} (h : oT N  = some r) :
  Calls Tryz.prog 78 #[] w0 fun e w' => ∃ v, e = .returned v ∧ ∃ A2 c2, v = .agg #[I r.1, I r.2.1, .slice A2 r.2.2.length c2] ∧ Mem w0.heap.size w0 w' [.row 3 1 A2 r.2.2.length c2 ((cI .i64).all r.2.2)] := by
 refine cR Tryz.func78 rfl Tryz.ntmps78 rfl ?_;intro a K;have M := Mem.start w0;have K : Kn a 3 [] := K;unfold oT at h;refine wp_seq (aB ?_);refine eB K (fV rfl z31 M) ?_;clear K M; rintro _ a w ⟨gS, rfl, M⟩ K;refine aJ (aA (wp_seq (aB ?_)));refine eB K (eG rfl g7 z3 K (vs := [(0, I 10), (1, I 65535), (2, I 0), (3, I 7)]) (cs := [I 10, I 65535, I 0, I 7]) rfl cU rfl rfl M) ?_;have M0 := M; clear K M; rintro _ a w ⟨gs, rfl, M⟩ K;replace M := M.kA 0 rfl (cI .i64) ([10, 65535, 0, 7] : List Int) (n := 4) rfl rfl rfl;clear M0;refine dU K (dK rfl K (vs := [(0, I 2), (1, I 2), (2, .slice (some ⟨gs, 0, none⟩) ([10, 65535, 0, 7] : List Int).length 4)]) (cs := [I 2, I 2, .slice (some ⟨gs, 0, none⟩) ([10, 65535, 0, 7] : List Int).length 4]) rfl cU) M ?_; clear K; intro a K;refine mD K (dE rfl j3 K rfl (ds := [I 2, I 2, .slice (some ⟨gs, 0, none⟩) ([10, 65535, 0, 7] : List Int).length 4]) rfl rfl 1 M rfl rfl rfl) ?_;clear K M; rintro _ a w M K;refine aJ (aA (wp_ret ?_));cases h;exact dD K rfl (dC K rfl j3 (M.eA (i := 1) rfl) rfl) ⟨_, rfl, _, _, rfl, M.pick [0] aL⟩
theorem tZ {N : Nat} {s : List (Int × Int)} {CF : Option Addr} {Dr : Nat} {w0 : World} {r : List (Int × Int)} (h : iI N s = some r) (FL : SL w0 fC CF s) (OO : s.length ≤ Dr) :
  Calls Tryz.prog 49 #[.slice CF s.length Dr] w0 fun e w' => ∃ v, e = .returned v ∧ ∃ A0 c0, v = .slice A0 r.length c0 ∧ Mem w0.heap.size w0 w' [.row 92 2 A0 r.length c0 (fC.all r)] := by
 refine cR Tryz.func49 rfl Tryz.ntmps49 rfl ?_;intro a K;have M := Mem.start w0;have K : Kn a 8 [(0, _)] := K;unfold iI at h;refine wp_seq (aB ?_);refine aK K M ?_; clear K; intro a K;refine aJ (aA (wp_seq (wp_seq (aB ?_))));refine aK K M ?_; clear K; intro a K
 by_cases hA : (CF).isNone = true
 ·have hs := SL.FG FL hA;replace h : some ([] : List (Int × Int)) = some r := by rw [hs] at h; exact h
  clear hs;refine dU K (CM (b' := true) hA (xL rfl EG K rfl rfl)) M ?_; clear K; intro a K;refine aJ (aA ?_);refine cW K rfl ?_;refine wp_seq (aB ?_);refine aK K M ?_; clear K; intro a K;refine aJ (aA (wp_ret (aI ?_)));cases h;exact dD K rfl (aE K rfl) ⟨_, rfl, _, _, rfl, (((Mem.aS 92 2 fC M)).pick [0] aL)⟩
 refine dU K (CM (b' := false) ((Bool.not_eq_true _).mp hA) (xL rfl EG K rfl rfl)) M ?_; clear K; intro a K;refine aJ (aA ?_);refine mQ K rfl ?_;refine wp_skip (aA (wp_seq (aB ?_)));refine eB K (tN (C := fC) rfl BA rfl K M) ?_;clear K M; rintro _ a w ⟨gs, rfl, M⟩ K;refine aK K M ?_; clear K; intro a K;obtain ⟨l2, C4, h⟩ := aF h;refine eB K (kG (C := fC) (xs := ([] : List (Int × Int))) (ys := s) rfl BA rfl Qm rfl rfl K rfl rfl 0 M rfl ((eP FL) _ M) C4) ?_;clear K M; rintro _ a w ⟨A, c, rfl, M⟩ K;refine aK K M ?_; clear K; intro a K;refine aJ (aA (wp_ret ?_));cases h;exact dD K rfl (aE K rfl) ⟨_, rfl, _, _, rfl, M.pick [0] aL⟩
theorem tD {N : Nat} {s : List (Int × Int)} {CF : Option Addr} {Dr : Nat} {w0 : World} {r : List (Int × Int)} (h : iA N s = some r) (FL : SL w0 fC CF s) (OO : s.length ≤ Dr) :
  Calls Tryz.prog 50 #[.slice CF s.length Dr] w0 fun e w' => ∃ v, e = .returned v ∧ ∃ A0 c0, v = .slice A0 r.length c0 ∧ Mem w0.heap.size w0 w' [.row 47 2 A0 r.length c0 (fC.all r)] := by
 refine cR Tryz.func50 rfl Tryz.ntmps50 rfl ?_;intro a K;have M := Mem.start w0;have K : Kn a 8 [(0, _)] := K;unfold iA at h;refine wp_seq (aB ?_);refine aK K M ?_; clear K; intro a K;refine aJ (aA (wp_seq (wp_seq (aB ?_))));refine aK K M ?_; clear K; intro a K
 by_cases hA : (CF).isNone = true
 ·have hs := SL.FG FL hA;replace h : some ([] : List (Int × Int)) = some r := by rw [hs] at h; exact h
  clear hs;refine dU K (CM (b' := true) hA (xL rfl BX K rfl rfl)) M ?_; clear K; intro a K;refine aJ (aA ?_);refine cW K rfl ?_;refine wp_seq (aB ?_);refine aK K M ?_; clear K; intro a K;refine aJ (aA (wp_ret (aI ?_)));cases h;exact dD K rfl (aE K rfl) ⟨_, rfl, _, _, rfl, (((Mem.aS 47 2 fC M)).pick [0] aL)⟩
 refine dU K (CM (b' := false) ((Bool.not_eq_true _).mp hA) (xL rfl BX K rfl rfl)) M ?_; clear K; intro a K;refine aJ (aA ?_);refine mQ K rfl ?_;refine wp_skip (aA (wp_seq (aB ?_)));refine eB K (tN (C := fC) rfl sI rfl K M) ?_;clear K M; rintro _ a w ⟨gs, rfl, M⟩ K;refine aK K M ?_; clear K; intro a K;obtain ⟨l2, C4, h⟩ := aF h;refine eB K (kG (C := fC) (xs := ([] : List (Int × Int))) (ys := s) rfl sI rfl z47 rfl rfl K rfl rfl 0 M rfl ((eP FL) _ M) C4) ?_;clear K M; rintro _ a w ⟨A, c, rfl, M⟩ K;refine aK K M ?_; clear K; intro a K;refine aJ (aA (wp_ret ?_));cases h;exact dD K rfl (aE K rfl) ⟨_, rfl, _, _, rfl, M.pick [0] aL⟩
end
section
open Go.RowKit Go.Shelf
def I5 : Go.Shelf.Ren := ⟨fun | 160 => 195 | 232 => 212 | 231 => 211 | 227 => 213 | 234 => 215 | 233 => 214 | 236 => 217 | 235 => 216 | 228 => 233 | 271 => 236 | 151 => 235 | 197 => 234 | 120 => 246 | 152 => 245 | 260 => 244 | 137 => 247 | 119 => 248 | 224 => 227 | 225 => 226 | 217 => 225 | 266 => 239 | n => n, fun | 9 => 9 | 4 => 4 | 3 => 3 | 5 => 5 | 117 => 267 | 116 => 266 | 0 => 0 | 124 => 270 | 21 => 21 | 105 => 284 | 46 => 154 | 119 => 296 | 139 => 299 | 138 => 298 | n => n, fun | 3 => 6 | 4 => 7 | n => n⟩
theorem Qn : Go.Proofs.Lays.n160 Tryz.prog I5 := {
 mixed := by kernel_rfl
 f119 := Tryz.func248.trans (congrArg some (by kernel_rfl))
 f120 := Tryz.func246.trans (congrArg some (by kernel_rfl))
 f137 := Tryz.func247.trans (congrArg some (by kernel_rfl))
 f151 := Tryz.func235.trans (congrArg some (by kernel_rfl))
 f152 := Tryz.func245.trans (congrArg some (by kernel_rfl))
 f160 := Tryz.func195.trans (congrArg some (by kernel_rfl))
 f197 := Tryz.func234.trans (congrArg some (by kernel_rfl))
 f217 := Tryz.func225.trans (congrArg some (by kernel_rfl))
 f224 := Tryz.func227.trans (congrArg some (by kernel_rfl))
 f225 := Tryz.func226.trans (congrArg some (by kernel_rfl))
 f227 := Tryz.func213.trans (congrArg some (by kernel_rfl))
 f228 := Tryz.func233.trans (congrArg some (by kernel_rfl))
 f231 := Tryz.func211.trans (congrArg some (by kernel_rfl))
 f232 := Tryz.func212.trans (congrArg some (by kernel_rfl))
 f233 := Tryz.func214.trans (congrArg some (by kernel_rfl))
 f234 := Tryz.func215.trans (congrArg some (by kernel_rfl))
 f235 := Tryz.func216.trans (congrArg some (by kernel_rfl))
 f236 := Tryz.func217.trans (congrArg some (by kernel_rfl))
 f260 := Tryz.func244.trans (congrArg some (by kernel_rfl))
 f266 := Tryz.func239.trans (congrArg some (by kernel_rfl))
 f271 := Tryz.func236.trans (congrArg some (by kernel_rfl))
 t0 := Tryz.underlying0
 a0 := Tryz.isAgg0
 z0 := Tryz.sizeOf0
 v0 := Tryz.zeroValue0
 t3 := Tryz.underlying3
 a3 := Tryz.isAgg3
 z3 := Tryz.sizeOf3
 v3 := Tryz.zeroValue3
 t4 := Tryz.underlying4
 a4 := Tryz.isAgg4
 z4 := Tryz.sizeOf4
 v4 := Tryz.zeroValue4
 t5 := Tryz.underlying5
 a5 := Tryz.isAgg5
 z5 := Tryz.sizeOf5
 v5 := Tryz.zeroValue5
 t9 := Tryz.underlying9
 a9 := Tryz.isAgg9
 z9 := Tryz.sizeOf9
 v9 := Tryz.zeroValue9
 t21 := Tryz.underlying21
 a21 := Tryz.isAgg21
 z21 := Tryz.sizeOf21
 v21 := Tryz.zeroValue21
 t46 := Tryz.underlying154
 a46 := Tryz.isAgg154
 z46 := Tryz.sizeOf154
 v46 := Tryz.zeroValue154
 t105 := Tryz.underlying284
 a105 := Tryz.isAgg284
 z105 := Tryz.sizeOf284
 v105 := Tryz.zeroValue284
 t116 := Tryz.underlying266
 a116 := Tryz.isAgg266
 z116 := Tryz.sizeOf266
 t117 := Tryz.underlying267
 a117 := Tryz.isAgg267
 z117 := Tryz.sizeOf267
 v117 := Tryz.zeroValue267
 t119 := Tryz.underlying296
 a119 := Tryz.isAgg296
 z119 := Tryz.sizeOf296
 t124 := Tryz.underlying270
 a124 := Tryz.isAgg270
 z124 := Tryz.sizeOf270
 v124 := Tryz.zeroValue270
 t138 := Tryz.underlying298
 a138 := Tryz.isAgg298
 z138 := Tryz.sizeOf298
 v138 := Tryz.zeroValue298
 t139 := Tryz.underlying299
 a139 := Tryz.isAgg299
 z139 := Tryz.sizeOf299
 v139 := Tryz.zeroValue299
 g3 := by kernel_rfl
 g4 := by kernel_rfl }
def I6 : Go.Shelf.Ren := ⟨fun | 138 => 196 | 195 => 218 | 218 => 219 | 143 => 198 | 219 => 203 | 217 => 225 | 225 => 226 | 224 => 227 | 267 => 228 | 266 => 239 | 314 => 240 | n => n, fun | 9 => 9 | 3 => 3 | 4 => 4 | 5 => 5 | 0 => 0 | 46 => 154 | 146 => 287 | 51 => 229 | n => n, fun | 1 => 1 | n => n⟩
theorem Qo : Go.Proofs.Lays.n138 Tryz.prog I6 := {
 mixed := by kernel_rfl
 f138 := Tryz.func196.trans (congrArg some (by kernel_rfl))
 f143 := Tryz.func198.trans (congrArg some (by kernel_rfl))
 f195 := Tryz.func218.trans (congrArg some (by kernel_rfl))
 f217 := Tryz.func225.trans (congrArg some (by kernel_rfl))
 f218 := Tryz.func219.trans (congrArg some (by kernel_rfl))
 f219 := Tryz.func203.trans (congrArg some (by kernel_rfl))
 f224 := Tryz.func227.trans (congrArg some (by kernel_rfl))
 f225 := Tryz.func226.trans (congrArg some (by kernel_rfl))
 f266 := Tryz.func239.trans (congrArg some (by kernel_rfl))
 f267 := Tryz.func228.trans (congrArg some (by kernel_rfl))
 f314 := Tryz.func240.trans (congrArg some (by kernel_rfl))
 t0 := Tryz.underlying0
 a0 := Tryz.isAgg0
 z0 := Tryz.sizeOf0
 v0 := Tryz.zeroValue0
 t3 := Tryz.underlying3
 a3 := Tryz.isAgg3
 z3 := Tryz.sizeOf3
 v3 := Tryz.zeroValue3
 t4 := Tryz.underlying4
 a4 := Tryz.isAgg4
 z4 := Tryz.sizeOf4
 v4 := Tryz.zeroValue4
 t5 := Tryz.underlying5
 a5 := Tryz.isAgg5
 z5 := Tryz.sizeOf5
 v5 := Tryz.zeroValue5
 t9 := Tryz.underlying9
 a9 := Tryz.isAgg9
 z9 := Tryz.sizeOf9
 v9 := Tryz.zeroValue9
 t46 := Tryz.underlying154
 a46 := Tryz.isAgg154
 z46 := Tryz.sizeOf154
 v46 := Tryz.zeroValue154
 t51 := Tryz.underlying229
 a51 := Tryz.isAgg229
 z51 := Tryz.sizeOf229
 v51 := Tryz.zeroValue229
 t146 := Tryz.underlying287
 a146 := Tryz.isAgg287
 z146 := Tryz.sizeOf287
 v146 := Tryz.zeroValue287
 g1 := by kernel_rfl }
def Eo : Go.Shelf.Ren := ⟨fun | 169 => 98 | n => n, fun | 70 => 146 | 9 => 9 | 0 => 0 | 72 => 148 | 37 => 123 | 127 => 219 | 3 => 3 | 5 => 5 | n => n, fun | n => n⟩
theorem Qp : Go.Proofs.Lays.n169 Tryz.prog Eo := {
 mixed := by kernel_rfl
 f169 := Tryz.func98.trans (congrArg some (by kernel_rfl))
 t0 := Tryz.underlying0
 a0 := Tryz.isAgg0
 z0 := Tryz.sizeOf0
 v0 := Tryz.zeroValue0
 t3 := Tryz.underlying3
 a3 := Tryz.isAgg3
 z3 := Tryz.sizeOf3
 v3 := Tryz.zeroValue3
 t9 := Tryz.underlying9
 a9 := Tryz.isAgg9
 z9 := Tryz.sizeOf9
 v9 := Tryz.zeroValue9
 t37 := Tryz.underlying123
 a37 := Tryz.isAgg123
 z37 := Tryz.sizeOf123
 v37 := Tryz.zeroValue123
 t70 := Tryz.underlying146
 a70 := Tryz.isAgg146
 z70 := Tryz.sizeOf146
 v70 := Tryz.zeroValue146
 t72 := Tryz.underlying148
 a72 := Tryz.isAgg148
 z72 := Tryz.sizeOf148
 v72 := Tryz.zeroValue148
 t127 := Tryz.underlying219
 a127 := Tryz.isAgg219
 z127 := Tryz.sizeOf219
 v127 := Tryz.zeroValue219 }
def I7 : Go.Shelf.Ren := ⟨fun | 144 => 180 | 143 => 198 | 219 => 203 | 217 => 225 | 225 => 226 | 224 => 227 | 267 => 228 | 266 => 239 | 314 => 240 | n => n, fun | 9 => 9 | 4 => 4 | 3 => 3 | 5 => 5 | 46 => 154 | 146 => 287 | 51 => 229 | n => n, fun | 1 => 1 | n => n⟩
theorem Qq : Go.Proofs.Lays.n144 Tryz.prog I7 := {
 mixed := by kernel_rfl
 f143 := Tryz.func198.trans (congrArg some (by kernel_rfl))
 f144 := Tryz.func180.trans (congrArg some (by kernel_rfl))
 f217 := Tryz.func225.trans (congrArg some (by kernel_rfl))
 f219 := Tryz.func203.trans (congrArg some (by kernel_rfl))
 f224 := Tryz.func227.trans (congrArg some (by kernel_rfl))
 f225 := Tryz.func226.trans (congrArg some (by kernel_rfl))
 f266 := Tryz.func239.trans (congrArg some (by kernel_rfl))
 f267 := Tryz.func228.trans (congrArg some (by kernel_rfl))
 f314 := Tryz.func240.trans (congrArg some (by kernel_rfl))
 t3 := Tryz.underlying3
 a3 := Tryz.isAgg3
 z3 := Tryz.sizeOf3
 v3 := Tryz.zeroValue3
 t4 := Tryz.underlying4
 a4 := Tryz.isAgg4
 z4 := Tryz.sizeOf4
 v4 := Tryz.zeroValue4
 t5 := Tryz.underlying5
 a5 := Tryz.isAgg5
 z5 := Tryz.sizeOf5
 v5 := Tryz.zeroValue5
 t9 := Tryz.underlying9
 a9 := Tryz.isAgg9
 z9 := Tryz.sizeOf9
 v9 := Tryz.zeroValue9
 t46 := Tryz.underlying154
 a46 := Tryz.isAgg154
 z46 := Tryz.sizeOf154
 v46 := Tryz.zeroValue154
 t51 := Tryz.underlying229
 a51 := Tryz.isAgg229
 z51 := Tryz.sizeOf229
 v51 := Tryz.zeroValue229
 t146 := Tryz.underlying287
 a146 := Tryz.isAgg287
 z146 := Tryz.sizeOf287
 v146 := Tryz.zeroValue287
 g1 := by kernel_rfl }
def B3 : Go.Shelf.Ren := ⟨fun | 166 => 95 | 240 => 150 | 276 => 184 | 169 => 98 | n => n, fun | 0 => 0 | 3 => 3 | 4 => 4 | 5 => 5 | 9 => 9 | 20 => 20 | 37 => 123 | 70 => 146 | 72 => 148 | 75 => 150 | 80 => 145 | 164 => 241 | 127 => 219 | n => n, fun | n => n⟩
theorem LJ : Go.Proofs.Lays.n166 Tryz.prog B3 := {
 mixed := by kernel_rfl
 f166 := Tryz.func95.trans (congrArg some (by kernel_rfl))
 f240 := Tryz.func150.trans (congrArg some (by kernel_rfl))
 f276 := Tryz.func184.trans (congrArg some (by kernel_rfl))
 t0 := Tryz.underlying0
 a0 := Tryz.isAgg0
 z0 := Tryz.sizeOf0
 v0 := Tryz.zeroValue0
 t3 := Tryz.underlying3
 a3 := Tryz.isAgg3
 z3 := Tryz.sizeOf3
 v3 := Tryz.zeroValue3
 t4 := Tryz.underlying4
 a4 := Tryz.isAgg4
 z4 := Tryz.sizeOf4
 v4 := Tryz.zeroValue4
 t9 := Tryz.underlying9
 a9 := Tryz.isAgg9
 z9 := Tryz.sizeOf9
 v9 := Tryz.zeroValue9
 t20 := Tryz.underlying20
 a20 := Tryz.isAgg20
 z20 := Tryz.sizeOf20
 v20 := Tryz.zeroValue20
 t37 := Tryz.underlying123
 a37 := Tryz.isAgg123
 z37 := Tryz.sizeOf123
 v37 := Tryz.zeroValue123
 t70 := Tryz.underlying146
 a70 := Tryz.isAgg146
 z70 := Tryz.sizeOf146
 v70 := Tryz.zeroValue146
 t72 := Tryz.underlying148
 a72 := Tryz.isAgg148
 z72 := Tryz.sizeOf148
 v72 := Tryz.zeroValue148
 t75 := Tryz.underlying150
 a75 := Tryz.isAgg150
 z75 := Tryz.sizeOf150
 v75 := Tryz.zeroValue150
 t164 := Tryz.underlying241
 a164 := Tryz.isAgg241
 z164 := Tryz.sizeOf241
 v164 := Tryz.zeroValue241 }
theorem zP : Builder.Extra Tryz.prog B3 where
 sizeBuilder := by kernel_rfl
 liesBuilder := by kernel_rfl
 t5 := Tryz.underlying5
 a5 := Tryz.isAgg5
 z5 := Tryz.sizeOf5
 v5 := Tryz.zeroValue5
 infoByte := by kernel_rfl
 cellsByte := by kernel_rfl
 sizeByte := by kernel_rfl
 neB5 := by decide
theorem Ds : Builder.Extra Tryz.prog Eo where
 sizeBuilder := by kernel_rfl
 liesBuilder := by kernel_rfl
 t5 := Tryz.underlying5
 a5 := Tryz.isAgg5
 z5 := Tryz.sizeOf5
 v5 := Tryz.zeroValue5
 infoByte := by kernel_rfl
 cellsByte := by kernel_rfl
 sizeByte := by kernel_rfl
 neB5 := by decide
theorem Builder_String (B b : Nat) (l : List UInt8) (w : World) (h : Lib.IsBuilder 148 5 B b (Lib.byteCells l) w) (hBw : B ≤ w.heap.size) :
  Calls Tryz.prog 98 #[.pointer (some ⟨b, 0, none⟩)] w fun e w' => e = .returned (.string ⟨l.toArray⟩) ∧ Below B w w' := Any.Builder_String_any Qp Ds B b l w h hBw
theorem FM (N : Nat) (s cutset : List UInt8) (w0 : World) (r : List UInt8) (h : rY N s cutset = some r) :
  Calls Tryz.prog 195 #[.string (bs s), .string (bs cutset)] w0 fun e w' => ∃ v, e = .returned v ∧ v = .string (bs r) ∧ Mem w0.heap.size w0 w' [] := by
 unfold rY at h
 split at h
 ·rename_i hc
  cases h;obtain ⟨h1, h2, h3⟩ := hc;refine (Any.strings_Trim_laid Qn (by kernel_rfl) (bs s) (bs cutset) w0 (by rw [tJ]; exact h1) (by rw [tJ]; exact h2) (fun j b hb => ?_)).mono ?_
  ·exact of_decide_eq_true (List.all_eq_true.1 h3 b (List.mem_of_getElem? hb))
  ·rintro e w' ⟨rfl, hb⟩;exact ⟨_, rfl, rfl, Mem.PK hb⟩
 ·cases h
theorem Bj (N : Nat) (s substr : List UInt8) (w0 : World) (r : Int) (h : oG N s substr = some r) :
  Calls Tryz.prog 196 #[.string (bs s), .string (bs substr)] w0 fun e w' => ∃ v, e = .returned v ∧ v = .int .i64 r ∧ Mem w0.heap.size w0 w' [] := by
 unfold oG at h
 split at h
 ·rename_i c
  cases h;refine (Any.strings_Count_one Qo (bs s) c w0).mono ?_;rintro e w' ⟨rfl, rfl⟩;exact ⟨_, rfl, rfl, Mem.start w'⟩
 ·cases h
section
variable {base : Nat} {W w : World} {L : List lL} {g c n : Nat} {A : Option Addr} {b d b2 : List UInt8}
theorem I8 (M : Mem base W w (.DS g 148 A n c :: L)) :
  Calls Tryz.prog 150 #[.pointer (some ⟨g, 0, none⟩)] w fun e w' => ∃ v, e = .returned v ∧ Mem base W w' (.blk g 148 [.pointer (some ⟨g, 0, none⟩), .slice A n c] :: L) := by
 obtain ⟨p, hp, hb⟩ := M.has 0 _ rfl;have hb' : w.heap[g]? = some (.cells #[.pointer p, .slice A n c] 148 (0, 0)) := hb;have M1 : Mem base W w (.blk g 148 [.pointer p, .slice A n c] :: L) := M.swap 0 rfl hb rfl
 rcases hp with rfl | rfl
 ·refine (Any.Builder_copyCheck_fresh { LJ with } zP.toX72 g w (M1.cell (i := 0) rfl (k := 0) rfl) (by simp [World.shape?, hb', B3]) (by simp [World.frozen?, hb'])).mono ?_;rintro e w' ⟨rfl, rfl⟩;exact ⟨_, rfl, M1.set 0 rfl 0 _⟩
 ·refine (Any.Builder_copyCheck_used { LJ with } zP.toX72 g w (M1.cell (i := 0) rfl (k := 0) rfl)).mono ?_;rintro e w' ⟨rfl, rfl⟩;exact ⟨_, rfl, M1⟩
theorem sJ (M : Mem base W w (.DS g 148 A b.length c :: .row 5 1 A b.length c ((cI .u8).all (pN b)) :: L)) (h : J3 b d = some b2) :
  Calls Tryz.prog 95 #[.pointer (some ⟨g, 0, none⟩), .string (bs d)] w fun e w' => ∃ v, e = .returned v ∧ ∃ A' c', Mem base W w' (.DS g 148 A' b2.length c' :: .row 5 1 A' b2.length c' ((cI .u8).all (pN b2)) :: L) := by
 obtain ⟨rfl, hl⟩ := Nt h
 have happ : app 1 (pN b) (pN d) = some (pN b ++ pN d) := by
  unfold app;rw [if_pos (by rw [zN, zN]; omega)]
 replace M : Mem base W w (.DS g 148 A (pN b).length c :: .row 5 1 A (pN b).length c ((cI .u8).all (pN b)) :: L) := by rw [zN]; exact M
 refine cR Tryz.func95 rfl Tryz.ntmps95 rfl ?_;intro a K;have K : Kn a 19 [(0, .pointer (some ⟨g, 0, none⟩)), (1, .string (bs d))] := K;refine wp_seq (aB ?_);refine aK K M ?_; clear K;refine aO M ?_; intro a K;refine wpList_nil (aA (wp_seq (aB ?_)));refine aK K M ?_; clear K; intro a K;refine eB K (k7 (vs := [.pointer (some ⟨g, 0, none⟩)]) (cap := []) rfl Tb K rfl rfl (I8 M)) ?_;clear K M; rintro _ a w M K;refine wpList_nil (aA (wp_seq (aB ?_)));refine aK K M ?_; clear K;refine aO M ?_;refine aO M ?_;refine bA (fun _ K => aC rfl (show uB Tryz.prog 148 1 = some 1 by kernel_rfl) K rfl) M ?_;refine bA (fun _ K => aH rfl Dq K rfl (dO 0 rfl) rfl) M ?_;refine aO M ?_; intro a K;refine eB K (Dp rfl lO qR Vp K rfl rfl 1 M rfl happ) ?_;clear K M; rintro _ a w ⟨A', c', rfl, M⟩ K;refine aK K M ?_; clear K;refine bA (fun _ K => aC rfl (show uB Tryz.prog 148 1 = some 1 by kernel_rfl) K rfl) M ?_; intro a K;refine mD K (dA rfl Dq K rfl rfl rfl 0 M rfl rfl) ?_;clear K M; rintro _ a w M K;refine wpList_nil (aA (wp_seq (aB ?_)));refine aK K M ?_; clear K;refine bA (fun _ K => lA rfl qR K rfl) M ?_;refine aO M ?_;refine aO M ?_; intro a K;refine wpList_nil (aA (wp_ret ?_));replace M : Mem base W w (.blk g 148 [.pointer (some ⟨g, 0, none⟩), .slice A' (pN b ++ pN d).length c'] :: .row 5 1 A' (pN b ++ pN d).length c' ((cI .u8).all (pN b ++ pN d)) :: L) := M;have M2 : Mem base W w (.DS g 148 A' (pN b ++ pN d).length c' :: .row 5 1 A' (pN b ++ pN d).length c' ((cI .u8).all (pN b ++ pN d)) :: L) := M.Vl 0 rfl;have e : (pN b ++ pN d) = pN (b ++ d) := (List.map_append ..).symm;rw [e, zN] at M2;exact iJ K rfl (aE K rfl) (aE K rfl) ⟨_, rfl, A', c', M2⟩
theorem Dt (M : Mem W.heap.size W w (.DS g 148 A b.length c :: .row 5 1 A b.length c ((cI .u8).all (pN b)) :: L)) :
  Calls Tryz.prog 98 #[.pointer (some ⟨g, 0, none⟩)] w fun e w' => ∃ v, e = .returned v ∧ v = .string (bs b) ∧ Mem W.heap.size W w' [] := by
 refine (Builder_String W.heap.size g b w M.builder M.sz).mono ?_;rintro e w' ⟨rfl, h2⟩;exact ⟨_, rfl, rfl, Mem.PK (M.low.trans h2)⟩
end
end
section
open Go.RowKit
theorem CG {N : Nat} {n : Int} {w0 : World} {r : Bool} (h : q9 N n = some r) :
  Calls Tryz.prog 121 #[I n] w0 fun e w' => ∃ v, e = .returned v ∧ v = .bool r ∧ Mem w0.heap.size w0 w' [] := by
 refine cR Tryz.func121 rfl Tryz.ntmps121 rfl ?_;intro a K;have M := Mem.start w0;have K : Kn a 9 [(0, _)] := K;unfold q9 at h;refine wp_seq (aB ?_);refine aK K M ?_; clear K; intro a K;refine aJ (aA (wp_seq (aB ?_)));refine aK K M ?_; clear K;iterate 2 (refine aO M ?_)
 intro a K
 rcases Bool.eq_false_or_eq_true (decide (1 ≤ n)) with hb | hb
 ·have h := aM hb h;have K := K.gN (s := 5) rfl hb;refine aK K M ?_; clear K;iterate 3 (refine aO M ?_)
  intro a K;refine aJ (aA (wp_ret ?_));cases h;exact dD K rfl (aE K rfl) ⟨_, rfl, rfl, M.pick [] aL⟩
 have h := aG hb h;have K := K.gN (s := 5) rfl hb;refine aK K M ?_; clear K;iterate 3 (refine aO M ?_)
 intro a K;refine aJ (aA (wp_ret ?_));cases h;exact dD K rfl (aE K rfl) ⟨_, rfl, rfl, M.pick [] aL⟩
theorem I9 {N : Nat} {d : List Int} {Fb : Option Addr} {Fc : Nat} {o : Int} {w0 : World} {r : List UInt8 × Int} (h : wB N d o = some r) (yU : SL w0 (cI .i64) Fb d) (Rn : d.length ≤ Fc) :
  Calls Tryz.prog 52 #[.slice Fb d.length Fc, I o] w0 fun e w' => ∃ v, e = .returned v ∧ v = .tuple #[.string (bs r.1), I r.2] ∧ Mem w0.heap.size w0 w' [] := by
 refine cR Tryz.func52 rfl Tryz.ntmps52 rfl ?_;intro a K;have M := Mem.start w0;have K : Kn a 75 [(0, _), (1, _)] := K;unfold wB at h;refine wp_seq (aB ?_);refine aK K M ?_; clear K;refine aO M ?_; intro a K;refine aJ (aA (wp_seq (wp_seq (aB ?_))));refine aK K M ?_; clear K; intro a K;obtain ⟨r2, hU, h⟩ := aF h;refine eB K (gF Oz K (CG hU)) ?_;clear K; rintro _ a w ⟨rfl, Zq⟩ K;replace M := M.call Zq; clear Zq;refine aK K M ?_; clear K; intro a K;refine aJ (aA ?_);refine aP K rfl (fun hb => ?_) (fun hb => ?_)
 ·have h := aM hb h;refine wp_seq (aB ?_);refine aK K M ?_; clear K;refine aO M ?_; intro a K;refine aJ (aA (wp_ret (aI ?_)));cases h;exact iJ K rfl (aE K rfl) (aE K rfl) ⟨_, rfl, rfl, M.pick [] aL⟩
 have h := aG hb h;refine wp_skip (aA (wp_seq (wp_seq (aB ?_))));refine aK K M ?_; clear K;refine bA (fun _ K => eH rfl qG K rfl) M ?_;refine aO M ?_; intro a K;refine aJ (aA ?_);refine aP K rfl (fun hb => ?_) (fun hb => ?_)
 ·have h := aM hb h;refine wp_seq (aB ?_);refine aK K M ?_; clear K;refine aO M ?_; intro a K;refine aJ (aA (wp_ret (aI ?_)));cases h;exact iJ K rfl (aE K rfl) (aE K rfl) ⟨_, rfl, rfl, M.pick [] aL⟩
 have h := aG hb h;refine wp_skip (aA (wp_seq (aB ?_)));refine aK K M ?_; clear K;refine bA (fun _ K => eH rfl qG K rfl) M ?_;iterate 3 (refine aO M ?_)
 refine bA (fun _ K => wL rfl K rfl rfl aL) M ?_; intro a K;obtain ⟨_, h0, h⟩ := aF h;have h0 := Ie h0;refine eB K (Ij (C := (cI .u8)) rfl lO rfl (by rw [z5]; rfl) rfl K rfl rfl M h0) ?_;clear K M; rintro _ a w ⟨A, c, rfl, M⟩ K;refine aK K M ?_; clear K; intro a K;refine aJ (aA (wp_seq (aB ?_)));refine aK K M ?_; clear K;refine aO M ?_; intro a K;refine aJ (aA (wp_seq (wp_seq (aB ?_))));refine aK K M ?_; clear K;refine bA (fun _ K => eH rfl qG K rfl) M ?_;refine aO M ?_; intro a K;refine aJ (aA (wp_block ?_));refine kT (id := 0) (Rel := fun (⟨l2, i, i2, i3⟩ : List Int × Int × Int × Int) a w => ∃ (A2 : Option Addr) (c2 : Nat), Kn a 75 [(1, I o), (6, .slice A2 l2.length c2), (7, I i), (8, I i2), (24, .slice Fb d.length Fc), (25, I (d.length : Int)), (26, I i3)] ∧ Mem w0.heap.size w0 w [.row 5 1 A2 l2.length c2 ((cI .u8).all l2)]) h (fun _ _ => rfl) ⟨A, c, K.pick [1,6,7,8,24,25,26], M.pick [0] aL⟩ ?_ ?_
 ·clear K M h;rintro ⟨l9, i7, i8, i9⟩ a w ⟨A9, c9, K, M⟩ h;try dsimp only at h
  refine gM ?_;refine aA (wp_seq (wp_seq (aB ?_)));refine aK K M ?_; clear K;refine aO M ?_; intro a K;refine aJ (aA ?_);refine aP K rfl (fun hb => ?_) (fun hb => ?_)
  ·have h := aM hb h;refine aB ?_;refine aK K M ?_; clear K;iterate 3 (refine aO M ?_)
   intro a K;obtain ⟨_, h0, h⟩ := aF h;have h0 := lP h0;refine dU K (pL rfl K rfl rfl h0) M ?_; clear K;refine bA (fun _ K => gH rfl rfl En K rfl) M ?_; intro a K;refine eB K (eG rfl lO z5 K (vs := [(0, .int .u8 (IntKind.u8.wrap (qF .i64 i7 (IntKind.i64.wrap (8 - i8)))))]) (cs := [.int .u8 (IntKind.u8.wrap (qF .i64 i7 (IntKind.i64.wrap (8 - i8))))]) rfl cU rfl rfl M) ?_;have M0 := M; clear K M; rintro _ a w ⟨Xb, rfl, M⟩ K;replace M := M.kA 0 rfl (cI .u8) ([IntKind.u8.wrap (qF .i64 i7 (IntKind.i64.wrap (8 - i8)))] : List Int) (n := 1) rfl rfl rfl;clear M0;obtain ⟨l10, Ja, h⟩ := aF h;refine eB K (kG (C := (cI .u8)) (xs := l9) (ys := ([IntKind.u8.wrap (qF .i64 i7 (IntKind.i64.wrap (8 - i8)))] : List Int)) rfl lO rfl z5 rfl rfl K rfl rfl 1 M rfl ((j6 (C := (cI .u8)) 0 rfl rfl) _ M) Ja) ?_;clear K M; rintro _ a w ⟨JS, c10, rfl, M⟩ K;refine aK K M ?_; clear K; intro a K;refine aJ (aA (wp_seq (aB ?_)));refine aK K M ?_; clear K;refine bA (fun _ K => sU rfl lO En qR K rfl (j6 (C := (cI .u8)) 1 rfl rfl)) M ?_;iterate 2 (refine aO M ?_)
   intro a K;refine aJ (aA (wp_ret ?_));cases h;exact iJ K rfl (aE K rfl) (aE K rfl) ⟨_, rfl, rfl, M.pick [] aL⟩
  have h := aG hb h;refine wp_skip (aA (wp_seq (aB ?_)));refine aK K M ?_; clear K;refine bA (fun _ K => sU rfl lO En qR K rfl (j6 (C := (cI .u8)) 0 rfl rfl)) M ?_;iterate 2 (refine aO M ?_)
  intro a K;refine aJ (aA (wp_ret ?_));cases h;exact iJ K rfl (aE K rfl) (aE K rfl) ⟨_, rfl, rfl, M.pick [] aL⟩
 clear K M h;rintro kk fuel ⟨l2, i, i2, i3⟩ a w hk1 ⟨A2, c2, K, M⟩ h;unfold pQ at h;refine wp_seq (aB ?_);refine aK K M ?_; clear K; intro a K;refine aJ (aA (wp_seq ?_));refine aP K rfl (fun hb => ?_) (fun hb => ?_)
 ·have h := aM hb h;refine wp_skip (aA (wp_seq (wp_block (wp_seq (aB ?_)))));obtain ⟨e2, lJ, h⟩ := aF h;refine dU K (jT rfl g7 K rfl rfl (eP yU) lJ) M ?_; clear K;refine bA (fun _ K => gW rfl fF K rfl rfl (eP yU) lJ rfl) M ?_;refine aO M ?_; intro a K;refine aJ (aA (wp_seq (wp_seq (aB ?_))));refine aK K M ?_; clear K;iterate 2 (refine aO M ?_)
  intro a K
  rcases Bool.eq_false_or_eq_true (decide (e2 < 0)) with hb | hb
  ·have h := aM hb h;have K := K.gN (s := 32) rfl hb;refine aK K M ?_; clear K;iterate 4 (refine aO M ?_)
   intro a K;refine aJ (aA ?_);refine cW K rfl ?_;refine wp_seq (aB ?_);refine aK K M ?_; clear K;refine aO M ?_; intro a K;refine aJ (aA (wp_ret (aI (dS (aI (aI (dS (aI ?_))))))));cases h;exact iJ K rfl (aE K rfl) (aE K rfl) ⟨_, rfl, rfl, M.pick [] aL⟩
  have h := aG hb h;have K := K.gN (s := 32) rfl hb;refine aK K M ?_; clear K;refine aO M ?_; intro a K;obtain ⟨_, h0, h⟩ := aF h;have h0 := lP h0;refine dU K (pL rfl K rfl rfl h0) M ?_; clear K;iterate 2 (refine aO M ?_)
  intro a K;refine aJ (aA ?_);refine aP K rfl (fun hb => ?_) (fun hb => ?_)
  ·have h := aM hb h;refine wp_seq (aB ?_);refine aK K M ?_; clear K;refine aO M ?_; intro a K;refine aJ (aA (wp_ret (aI (dS (aI (aI (dS (aI ?_))))))));cases h;exact iJ K rfl (aE K rfl) (aE K rfl) ⟨_, rfl, rfl, M.pick [] aL⟩
  have h := aG hb h;refine wp_skip (aA (wp_seq (aB ?_)));refine aK K M ?_; clear K;refine aO M ?_; intro a K;obtain ⟨_, h0, h⟩ := aF h;have h0 := lP h0;refine dU K (pL rfl K rfl rfl h0) M ?_; clear K;refine aO M ?_;refine bA (fun _ K => Ih rfl K rfl rfl) M ?_;iterate 3 (refine aO M ?_)
  obtain ⟨x6, hx, h⟩ := g9 h;refine bA (fun _ K => nH hx (bU rfl K rfl)) M ?_;obtain ⟨x7, hx, h⟩ := g9 h;refine bA (fun _ K => nH hx (bU rfl K rfl)) M ?_; intro a K;refine aJ (aA (wp_seq (wp_block ?_)));refine kT (id := 2) (Rel := fun (⟨l5, i5⟩ : List Int × Int) a w => ∃ (A5 : Option Addr) (c5 : Nat), Kn a 75 [(1, I o), (6, .slice A5 l5.length c5), (7, I x6), (8, I i5), (24, .slice Fb d.length Fc), (25, I (d.length : Int)), (26, I i3), (33, I e2), (34, I o), (35, I (qF .i64 1 o)), (36, .bool (decide ((qF .i64 1 o) ≤ e2)))] ∧ Mem w0.heap.size w0 w [.row 5 1 A5 l5.length c5 ((cI .u8).all l5)]) h (fun _ _ => rfl) ⟨A2, c2, K.pick [1,6,7,8,24,25,26,33,34,35,36], M.pick [0] aL⟩ ?_ ?_
  ·clear K M h;rintro ⟨l8, i6⟩ a w ⟨A8, c8, K, M⟩ h;try dsimp only at h
   refine gM ?_;refine aA (aB ?_);refine aK K M ?_; clear K;refine aO M ?_; intro a K;obtain ⟨_, h0, h⟩ := aF h;have h0 := lP h0;refine dU K (pL rfl K rfl rfl h0) M ?_; clear K;iterate 2 (refine aO M ?_)
   obtain ⟨x10, hx, h⟩ := g9 h;refine bA (fun _ K => nH hx (bU rfl K rfl)) M ?_; intro a K;refine aJ (dP (aA (aB ?_)));refine aK K M ?_; clear K;refine aO M ?_; intro a K;refine aJ ?_;exact aA ⟨(l8, x10, i6, IntKind.i64.wrap (i3 + 1)), ⟨A8, c8, K.pick [1,6,7,8,24,25,26], M.pick [0] aL⟩, h⟩
  clear K M h;rintro kk fuel ⟨l5, i5⟩ a w hk2 ⟨A5, c5, K, M⟩ h;unfold pP at h;refine wp_seq (wp_seq (aB ?_));refine aK K M ?_; clear K;refine aO M ?_; intro a K;refine aJ (aA ?_);refine aP K rfl (fun hb => ?_) (fun hb => ?_)
  ·have h := aM hb h;refine wp_skip (aA (wp_block (wp_seq (aB ?_))));refine aK K M ?_; clear K;refine aO M ?_;obtain ⟨x9, hx, h⟩ := g9 h;refine bA (fun _ K => nH hx (bU rfl K rfl)) M ?_; intro a K;refine aJ (aA (aB ?_));refine aK K M ?_; clear K;iterate 2 (refine aO M ?_)
   intro a K;obtain ⟨_, h0, h⟩ := aF h;have h0 := lP h0;refine dU K (rJ rfl K rfl rfl h0) M ?_; clear K;refine bA (fun _ K => gH rfl rfl En K rfl) M ?_; intro a K;refine eB K (eG rfl lO z5 K (vs := [(0, .int .u8 (IntKind.u8.wrap (j0 .i64 x6 x9)))]) (cs := [.int .u8 (IntKind.u8.wrap (j0 .i64 x6 x9))]) rfl cU rfl rfl M) ?_;have M0 := M; clear K M; rintro _ a w ⟨TA, rfl, M⟩ K;replace M := M.kA 0 rfl (cI .u8) ([IntKind.u8.wrap (j0 .i64 x6 x9)] : List Int) (n := 1) rfl rfl rfl;clear M0;obtain ⟨l7, EI, h⟩ := aF h;refine eB K (kG (C := (cI .u8)) (xs := l5) (ys := ([IntKind.u8.wrap (j0 .i64 x6 x9)] : List Int)) rfl lO rfl z5 rfl rfl K rfl rfl 1 M rfl ((j6 (C := (cI .u8)) 0 rfl rfl) _ M) EI) ?_;clear K M; rintro _ a w ⟨A7, c7, rfl, M⟩ K;refine aK K M ?_; clear K; intro a K;refine aJ (dP ?_);exact aA ⟨(l7, x9), ⟨A7, c7, K.pick [1,6,7,8,24,25,26,33,34,35,36], M.pick [1] aL⟩, h⟩
  have h := aG hb h;refine wp_exit ?_;refine cP ?_;exact cP (hk2 (l5, i5) _ _ ⟨A5, c5, K.pick [1,6,7,8,24,25,26,33,34,35,36], M.pick [0] aL⟩ h)
 have h := aG hb h;refine wp_exit ?_;refine cP ?_;exact cP (hk1 (l2, i, i2, i3) _ _ ⟨A2, c2, K.pick [1,6,7,8,24,25,26], M.pick [0] aL⟩ h)
theorem CH {N : Nat} {n size : Int} {w0 : World} {r : List UInt8} (h : rA N n size = some r) :
  Calls Tryz.prog 169 #[I n, I size] w0 fun e w' => ∃ v, e = .returned v ∧ v = .string (bs r) ∧ Mem w0.heap.size w0 w' [] := by
 refine cR Tryz.func169 rfl Tryz.ntmps169 rfl ?_;intro a K;have M := Mem.start w0;have K : Kn a 28 [(0, _), (1, _)] := K;unfold rA at h;refine wp_seq (aB ?_);refine aK K M ?_; clear K; intro a K;refine aJ (aA (wp_seq (aB ?_)));refine aK K M ?_; clear K; intro a K;obtain ⟨l2, C4, h⟩ := aF h;refine eB K (EW (C := (cI .u8)) (z := 0) rfl lO rfl z5 rfl K rfl rfl M C4) ?_;clear K M; rintro _ a w ⟨A, c, rfl, M⟩ K;refine aK K M ?_; clear K; intro a K;refine aJ (aA (wp_seq (wp_seq (aB ?_))));refine aK K M ?_; clear K;refine bA (fun _ K => eH rfl Ot K rfl) M ?_;refine aO M ?_; intro a K;refine aJ (aA (wp_block ?_));refine kT (id := 0) (Rel := fun (⟨l3, i, i2⟩ : List Int × Int × Int) a w => Kn a 28 [(0, I n), (1, I size), (5, .slice A l3.length c), (10, I i), (11, I i2)] ∧ Mem w0.heap.size w0 w [.row 5 1 A l3.length c ((cI .u8).all l3)]) h (fun _ _ => rfl) ⟨K.pick [0,1,5,10,11], M.pick [0] aL⟩ ?_ ?_
 ·clear K M h;rintro ⟨l6, i3, i4⟩ a w ⟨K, M⟩ h;try dsimp only at h
  refine gM ?_;refine aA (wp_seq (aB ?_));refine aK K M ?_; clear K;refine bA (fun _ K => sU rfl lO En qR K rfl (j6 (C := (cI .u8)) 0 rfl rfl)) M ?_;refine aO M ?_; intro a K;refine aJ (aA (wp_ret ?_));cases h;exact dD K rfl (aE K rfl) ⟨_, rfl, rfl, M.pick [] aL⟩
 clear K M h;rintro kk fuel ⟨l3, i, i2⟩ a w hk1 ⟨K, M⟩ h;unfold nV at h;refine wp_seq (aB ?_);refine aK K M ?_; clear K; intro a K;refine aJ (aA (wp_seq ?_));refine aP K rfl (fun hb => ?_) (fun hb => ?_)
 ·have h := aM hb h;refine wp_skip (aA (wp_seq (wp_block (wp_seq (aB ?_)))));refine aK K M ?_; clear K;refine aO M ?_; intro a K;refine aJ (aA (aB ?_));refine aK K M ?_; clear K;iterate 6 (refine aO M ?_)
  intro a K;obtain ⟨_, h0, h⟩ := aF h;have h0 := lP h0;refine dU K (rJ rfl K rfl rfl h0) M ?_; clear K;refine aO M ?_;obtain ⟨b2, OP, h⟩ := aF h;refine bA (fun _ K => tO rfl qR K rfl rfl OP) M ?_;obtain ⟨e2, lJ, h⟩ := aF h;refine bA (fun _ K => jT rfl lO K rfl rfl (j6 (C := (cI .u8)) 0 rfl rfl) lJ) M ?_; intro a K;obtain ⟨l5, AW, h⟩ := aF h;refine mD K (oF (el := (b2.toNat : Int)) rfl Z1 rfl rfl K rfl rfl rfl 0 M rfl AW) ?_;have M0 := M; clear K M; rintro _ a w M K;have hl := qT AW;try rw [hl] at M
  try rw [hl] at K
  clear hl;clear M0;refine aJ (dP (aA (aB ?_)));refine aK K M ?_; clear K;refine aO M ?_; intro a K;refine aJ ?_;exact aA ⟨(l5, i, IntKind.i64.wrap (i2 + 1)), ⟨K.pick [0,1,5,10,11], M.pick [0] aL⟩, h⟩
 have h := aG hb h;refine wp_exit ?_;refine cP ?_;exact cP (hk1 (l3, i, i2) _ _ ⟨K.pick [0,1,5,10,11], M.pick [0] aL⟩ h)
theorem tE {N : Nat} {n size : Int} {w0 : World} {r : List UInt8 × Int} (h : kV N n size = some r) :
  Calls Tryz.prog 126 #[I n, I size] w0 fun e w' => ∃ v, e = .returned v ∧ v = .tuple #[.string (bs r.1), I r.2] ∧ Mem w0.heap.size w0 w' [] := by
 refine cR Tryz.func126 rfl Tryz.ntmps126 rfl ?_;intro a K;have M := Mem.start w0;have K : Kn a 25 [(0, _), (1, _)] := K;unfold kV at h;refine wp_seq (aB ?_);refine aK K M ?_; clear K;refine aO M ?_; intro a K;refine aJ (aA (wp_seq (wp_seq (aB ?_))));refine aK K M ?_; clear K;iterate 2 (refine aO M ?_)
 intro a K
 rcases Bool.eq_false_or_eq_true (decide (size < 0)) with hb | hb
 ·have h := aM hb h;have K := K.gN (s := 8) rfl hb;refine aK K M ?_; clear K;iterate 12 (refine aO M ?_)
  intro a K;refine aJ (aA ?_);refine cW K rfl ?_;refine wp_seq (aB ?_);refine aK K M ?_; clear K;refine aO M ?_; intro a K;refine aJ (aA (wp_ret (aI ?_)));cases h;exact iJ K rfl (aE K rfl) (aE K rfl) ⟨_, rfl, rfl, M.pick [] aL⟩
 have h := aG hb h;have K := K.gN (s := 8) rfl hb;refine aK K M ?_; clear K;iterate 3 (refine aO M ?_)
 intro a K
 rcases Bool.eq_false_or_eq_true (decide (16 < size)) with hb | hb
 ·have h := aM hb h;have K := K.gN (s := 12) rfl hb;refine aK K M ?_; clear K;iterate 8 (refine aO M ?_)
  intro a K;refine aJ (aA ?_);refine cW K rfl ?_;refine wp_seq (aB ?_);refine aK K M ?_; clear K;refine aO M ?_; intro a K;refine aJ (aA (wp_ret (aI ?_)));cases h;exact iJ K rfl (aE K rfl) (aE K rfl) ⟨_, rfl, rfl, M.pick [] aL⟩
 have h := aG hb h;have K := K.gN (s := 12) rfl hb;refine aK K M ?_; clear K;iterate 3 (refine aO M ?_)
 intro a K
 rcases Bool.eq_false_or_eq_true (decide (n < 0)) with hb | hb
 ·have h := aM hb h;have K := K.gN (s := 16) rfl hb;refine aK K M ?_; clear K;iterate 4 (refine aO M ?_)
  intro a K;refine aJ (aA ?_);refine cW K rfl ?_;refine wp_seq (aB ?_);refine aK K M ?_; clear K;refine aO M ?_; intro a K;refine aJ (aA (wp_ret (aI ?_)));cases h;exact iJ K rfl (aE K rfl) (aE K rfl) ⟨_, rfl, rfl, M.pick [] aL⟩
 have h := aG hb h;have K := K.gN (s := 16) rfl hb;refine aK K M ?_; clear K;refine aO M ?_; intro a K;obtain ⟨_, h0, h⟩ := aF h;have h0 := lP h0;refine dU K (pL rfl K rfl rfl h0) M ?_; clear K;iterate 2 (refine aO M ?_)
 intro a K;refine aJ (aA ?_);refine aP K rfl (fun hb => ?_) (fun hb => ?_)
 ·have h := aM hb h;refine wp_seq (aB ?_);refine aK K M ?_; clear K;refine aO M ?_; intro a K;refine aJ (aA (wp_ret (aI ?_)));cases h;exact iJ K rfl (aE K rfl) (aE K rfl) ⟨_, rfl, rfl, M.pick [] aL⟩
 have h := aG hb h;refine wp_skip (aA (wp_seq (aB ?_)));refine aK K M ?_; clear K;refine aO M ?_; intro a K;obtain ⟨r2, hU, h⟩ := aF h;refine eB K (gF OH K (CH hU)) ?_;clear K; rintro _ a w ⟨rfl, Zq⟩ K;replace M := M.call Zq; clear Zq;refine aK K M ?_; clear K;refine aO M ?_; intro a K;refine aJ (aA (wp_ret ?_));cases h;exact iJ K rfl (aE K rfl) (aE K rfl) ⟨_, rfl, rfl, M.pick [] aL⟩
theorem FN {N : Nat} {b : List UInt8} {w0 : World} {r : Bool} (h : vH N b = some r) :
  Calls Tryz.prog 170 #[.string (bs b)] w0 fun e w' => ∃ v, e = .returned v ∧ v = .bool r ∧ Mem w0.heap.size w0 w' [] := by
 refine cR Tryz.func170 rfl Tryz.ntmps170 rfl ?_;intro a K;have M := Mem.start w0;have K : Kn a 16 [(0, _)] := K;unfold vH at h;refine wp_seq (aB ?_);refine aK K M ?_; clear K; intro a K;refine aJ (aA (wp_seq (aB ?_)));refine aK K M ?_; clear K; intro a K;obtain ⟨r2, hU, h⟩ := aF h;refine eB K (k7 (vs := [.string (bs b), .string (bs ([48, 49] : List UInt8))]) (cap := []) rfl Tw K rfl rfl (FM N b ([48, 49] : List UInt8) _  r2 hU)) ?_;clear K; rintro _ a w ⟨rfl, Zq⟩ K;replace M := M.call Zq; clear Zq;refine dU K (E8 rfl K rfl rfl) M ?_; clear K;refine aO M ?_; intro a K
 rcases Bool.eq_false_or_eq_true (decide (r2 = ([] : List UInt8))) with hb | hb
 ·have h := aM hb h;have K := K.gN (s := 6) rfl hb;refine aK K M ?_; clear K; intro a K;obtain ⟨r3, lE, h⟩ := aF h;refine eB K (k7 (vs := [.string (bs b), .string (bs ([48] : List UInt8))]) (cap := []) rfl ON K rfl rfl (Bj N b ([48] : List UInt8) _  r3 lE)) ?_;clear K; rintro _ a w ⟨rfl, Zq⟩ K;replace M := M.call Zq; clear Zq;refine aK K M ?_; clear K; intro a K;obtain ⟨r4, pC, h⟩ := aF h;refine eB K (k7 (vs := [.string (bs b), .string (bs ([49] : List UInt8))]) (cap := []) rfl ON K rfl rfl (Bj N b ([49] : List UInt8) _  r4 pC)) ?_;clear K; rintro _ a w ⟨rfl, Zq⟩ K;replace M := M.call Zq; clear Zq;refine aK K M ?_; clear K;refine aO M ?_;refine bA (fun _ K => lA rfl qR K rfl) M ?_;iterate 3 (refine aO M ?_)
  intro a K;refine aJ (aA (wp_ret ?_));cases h;exact dD K rfl (aE K rfl) ⟨_, rfl, rfl, M.pick [] aL⟩
 have h := aG hb h;have K := K.gN (s := 6) rfl hb;refine aK K M ?_; clear K;iterate 9 (refine aO M ?_)
 intro a K;refine aJ (aA (wp_ret ?_));cases h;exact dD K rfl (aE K rfl) ⟨_, rfl, rfl, M.pick [] aL⟩
theorem Du {N : Nat} {b : List UInt8} {w0 : World} {r : List UInt8 × Int} (h : qJ N b = some r) :
  Calls Tryz.prog 127 #[.string (bs b)] w0 fun e w' => ∃ v, e = .returned v ∧ v = .tuple #[.string (bs r.1), I r.2] ∧ Mem w0.heap.size w0 w' [] := by
 refine cR Tryz.func127 rfl Tryz.ntmps127 rfl ?_;intro a K;have M := Mem.start w0;have K : Kn a 37 [(0, _)] := K;unfold qJ at h;refine wp_seq (aB ?_);refine aK K M ?_; clear K;refine aO M ?_; intro a K;refine aJ (aA (wp_seq (wp_seq (aB ?_))));refine aK K M ?_; clear K; intro a K;obtain ⟨r2, hU, h⟩ := aF h;refine eB K (gF OJ K (FN hU)) ?_;clear K; rintro _ a w ⟨rfl, Zq⟩ K;replace M := M.call Zq; clear Zq;refine aK K M ?_; clear K; intro a K;refine aJ (aA ?_);refine aP K rfl (fun hb => ?_) (fun hb => ?_)
 ·have h := aM hb h;refine wp_seq (aB ?_);refine aK K M ?_; clear K;refine aO M ?_; intro a K;refine aJ (aA (wp_ret (aI ?_)));cases h;exact iJ K rfl (aE K rfl) (aE K rfl) ⟨_, rfl, rfl, M.pick [] aL⟩
 have h := aG hb h;refine wp_skip (aA (wp_seq (aB ?_)));refine aK K M ?_; clear K;refine bA (fun _ K => lA rfl qR K rfl) M ?_;refine aO M ?_;obtain ⟨x2, hx, h⟩ := g9 h;refine bA (fun _ K => nH hx (wL rfl K rfl rfl aL)) M ?_; intro a K;obtain ⟨l2, C4, h⟩ := aF h;refine eB K (EW (C := (cI .u8)) (z := 0) rfl lO rfl z5 rfl K rfl rfl M C4) ?_;clear K M; rintro _ a w ⟨A, c, rfl, M⟩ K;refine aK K M ?_; clear K; intro a K;refine aJ (aA (wp_seq (wp_seq (aB ?_))));refine aK K M ?_; clear K;refine bA (fun _ K => lA rfl qR K rfl) M ?_;refine aO M ?_; intro a K;refine aJ (aA (wp_block ?_));refine kT (id := 0) (Rel := fun (⟨l3, i⟩ : List Int × Int) a w => Kn a 37 [(0, .string (bs b)), (4, .slice A l3.length c), (15, I (b.length : Int)), (16, I i)] ∧ Mem w0.heap.size w0 w [.row 5 1 A l3.length c ((cI .u8).all l3)]) h (fun _ _ => rfl) ⟨K.pick [0,4,15,16], M.pick [0] aL⟩ ?_ ?_
 ·clear K M h;rintro ⟨l6, i2⟩ a w ⟨K, M⟩ h;try dsimp only at h
  refine gM ?_;refine aA (wp_seq (aB ?_));refine aK K M ?_; clear K;refine bA (fun _ K => sU rfl lO En qR K rfl (j6 (C := (cI .u8)) 0 rfl rfl)) M ?_;iterate 2 (refine aO M ?_)
  intro a K;refine aJ (aA (wp_ret ?_));cases h;exact iJ K rfl (aE K rfl) (aE K rfl) ⟨_, rfl, rfl, M.pick [] aL⟩
 clear K M h;rintro kk fuel ⟨l3, i⟩ a w hk1 ⟨K, M⟩ h;unfold oO at h;refine wp_seq (aB ?_);refine aK K M ?_; clear K; intro a K;refine aJ (aA (wp_seq ?_));refine aP K rfl (fun hb => ?_) (fun hb => ?_)
 ·have h := aM hb h;refine wp_skip (aA (wp_seq (wp_block (wp_seq (aB ?_)))));refine aK K M ?_; clear K;refine aO M ?_; intro a K;refine aJ (aA ?_);refine d3 (fun w => Mem _ _ w _) [0,0,0,0,0,0,0,0,0,0,0,0,0,0,0,2] cU cU M.drew ?_;replace M := M.drew;refine qQ K ?_; clear K;refine lD ?_;obtain ⟨x4, hx, h⟩ := g9 h;refine iO (fun _ K => nH hx (wL rfl K rfl rfl aL)) ?_;obtain ⟨e3, sK, h⟩ := aF h;refine iO (fun _ K => iR rfl lO K rfl rfl ((j6 (C := (cI .u8)) 0 rfl rfl) _ M) sK) ?_;refine iO (fun _ K => gW rfl Zg K rfl rfl (j6 (C := (cI .u8)) 0 rfl rfl) sK rfl) ?_;iterate 2 (refine lD ?_)
  obtain ⟨b3, HH, h⟩ := aF h;refine iO (fun _ K => tO rfl qR K rfl rfl HH) ?_;iterate 2 (refine lD ?_)
  refine iO (fun _ K => JY rfl K rfl rfl aL) ?_;refine lD ?_; intro a K;obtain ⟨_, h0, h⟩ := aF h;have h0 := lP h0;refine xB K (pL rfl K rfl rfl h0) ?_; clear K;refine iO (fun _ K => Ih rfl K rfl rfl) ?_;obtain ⟨e4, t6, h⟩ := aF h;refine iO (fun _ K => iR rfl lO K rfl rfl ((j6 (C := (cI .u8)) 0 rfl rfl) _ M) t6) ?_; intro a K;obtain ⟨l5, AW, h⟩ := aF h;refine SW K (oF (el := LP .u8 e3 (qF .u8 (IntKind.u8.wrap ((b3.toNat : Int) - 48)) (IntKind.i64.wrap (7 - (Int.tmod i 8))))) rfl Z1 rfl rfl K rfl rfl rfl 0 M rfl AW) ?_;have M0 := M; clear K M; rintro _ a w M K;have hl := qT AW;try rw [hl] at M
  try rw [hl] at K
  clear hl;clear M0;refine jF ?_;refine dP (aA (aB ?_));refine aK K M ?_; clear K;refine aO M ?_; intro a K;refine aJ ?_;exact aA ⟨(l5, IntKind.i64.wrap (i + 1)), ⟨K.pick [0,4,15,16], M.pick [0] aL⟩, h⟩
 have h := aG hb h;refine wp_exit ?_;refine cP ?_;exact cP (hk1 (l3, i) _ _ ⟨K.pick [0,4,15,16], M.pick [0] aL⟩ h)
theorem Gl {N : Nat} {d : List UInt8} {o p2 : Int} {w0 : World} {r : List Int × Int} (h : zV N d o p2 = some r) :
  Calls Tryz.prog 145 #[.string (bs d), I o, I p2] w0 fun e w' => ∃ v, e = .returned v ∧ ∃ A0 c0, v = .tuple #[.slice A0 r.1.length c0, I r.2] ∧ Mem w0.heap.size w0 w' [.row 3 1 A0 r.1.length c0 ((cI .i64).all r.1)] := by
 refine cR Tryz.func145 rfl Tryz.ntmps145 rfl ?_;intro a K;have M := Mem.start w0;have K : Kn a 70 [(0, _), (1, _), (2, _)] := K;unfold zV at h;refine wp_seq (aB ?_);refine aK K M ?_; clear K;refine aO M ?_; intro a K;refine aJ (aA (wp_seq (wp_seq (aB ?_))));refine aK K M ?_; clear K; intro a K;obtain ⟨r2, hU, h⟩ := aF h;refine eB K (gF Oz K (CG hU)) ?_;clear K; rintro _ a w ⟨rfl, Zq⟩ K;replace M := M.call Zq; clear Zq;refine aK K M ?_; clear K;refine aO M ?_; intro a K
 rcases Bool.eq_false_or_eq_true (!(r2)) with hb | hb
 ·have h := aM hb h;have K := K.gN (s := 15) rfl hb;refine aK K M ?_; clear K;iterate 2 (refine aO M ?_)
  intro a K;refine aJ (aA ?_);refine cW K rfl ?_;refine wp_seq (aB ?_);refine aK K M ?_; clear K;refine aO M ?_; intro a K;refine aJ (aA (wp_ret (aI ?_)));cases h;exact iJ K rfl (aE K rfl) (aE K rfl) ⟨_, rfl, _, _, rfl, (((Mem.aS 3 1 (cI .i64) M)).pick [0] aL)⟩
 have h := aG hb h;have K := K.gN (s := 15) rfl hb;refine aK K M ?_; clear K;iterate 2 (refine aO M ?_)
 intro a K;refine aJ (aA ?_);refine aP K rfl (fun hb => ?_) (fun hb => ?_)
 ·have h := aM hb h;refine wp_seq (aB ?_);refine aK K M ?_; clear K;refine aO M ?_; intro a K;refine aJ (aA (wp_ret (aI ?_)));cases h;exact iJ K rfl (aE K rfl) (aE K rfl) ⟨_, rfl, _, _, rfl, (((Mem.aS 3 1 (cI .i64) M)).pick [0] aL)⟩
 have h := aG hb h;refine wp_skip (aA (wp_seq (wp_seq (aB ?_))));refine aK K M ?_; clear K;refine aO M ?_; intro a K;refine aJ (aA ?_);refine aP K rfl (fun hb => ?_) (fun hb => ?_)
 ·have h := aM hb h;refine wp_seq (aB ?_);refine aK K M ?_; clear K;refine aO M ?_; intro a K;refine aJ (aA (wp_ret (aI ?_)));cases h;exact iJ K rfl (aE K rfl) (aE K rfl) ⟨_, rfl, _, _, rfl, (((Mem.aS 3 1 (cI .i64) M)).pick [0] aL)⟩
 have h := aG hb h;refine wp_skip (aA (wp_seq (wp_seq (aB ?_))));refine aK K M ?_; clear K;refine bA (fun _ K => lA rfl qR K rfl) M ?_;iterate 4 (refine aO M ?_)
 refine bA (fun _ K => wL rfl K rfl rfl aL) M ?_;refine aO M ?_; intro a K;refine aJ (aA ?_);refine aP K rfl (fun hb => ?_) (fun hb => ?_)
 ·have h := aM hb h;refine wp_seq (aB ?_);refine aK K M ?_; clear K;refine aO M ?_; intro a K;refine aJ (aA (wp_ret (aI ?_)));cases h;exact iJ K rfl (aE K rfl) (aE K rfl) ⟨_, rfl, _, _, rfl, (((Mem.aS 3 1 (cI .i64) M)).pick [0] aL)⟩
 have h := aG hb h;refine wp_skip (aA (wp_seq (aB ?_)));refine aK K M ?_; clear K; intro a K;refine aJ (aA (wp_seq (aB ?_)));refine aK K M ?_; clear K;refine aO M ?_; intro a K;refine aJ (aA (wp_seq (wp_seq (aB ?_))));refine aK K M ?_; clear K;refine bA (fun _ K => lA rfl qR K rfl) M ?_;refine aO M ?_; intro a K;refine aJ (aA (wp_block ?_));replace M := Mem.aS 3 1 (cI .i64) M;refine kT (id := 0) (Rel := fun (⟨l5, i3, i4, i5⟩ : List Int × Int × Int × Int) a w => ∃ (A4 : Option Addr) (c4 : Nat), Kn a 70 [(0, .string (bs d)), (1, I o), (2, I p2), (8, .slice A4 l5.length c4), (9, I i3), (10, I i4), (30, I (d.length : Int)), (31, I i5)] ∧ Mem w0.heap.size w0 w [.row 3 1 A4 l5.length c4 ((cI .i64).all l5)]) h (fun _ _ => rfl) ⟨none, 0, K.pick [0,1,2,8,9,10,30,31], M.pick [0] aL⟩ ?_ ?_
 ·clear K M h;rintro ⟨PR, i12, Pv, UZ⟩ a w ⟨MM, c11, K, M⟩ h;try dsimp only at h
  refine gM ?_;refine aA (wp_seq (wp_seq (aB ?_)));refine aK K M ?_; clear K;refine aO M ?_; intro a K;refine aJ (aA ?_);refine aP K rfl (fun hb => ?_) (fun hb => ?_)
  ·have h := aM hb h;refine wp_seq (aB ?_);refine aK K M ?_; clear K;refine aO M ?_; intro a K;refine aJ (aA (wp_ret (aI ?_)));cases h;exact iJ K rfl (aE K rfl) (aE K rfl) ⟨_, rfl, _, _, rfl, (((Mem.aS 3 1 (cI .i64) M)).pick [0] aL)⟩
  have h := aG hb h;refine wp_skip (aA (wp_seq (aB ?_)));refine aK K M ?_; clear K;iterate 2 (refine aO M ?_)
  intro a K;refine aJ (aA (wp_ret ?_));cases h;exact iJ K rfl (aE K rfl) (aE K rfl) ⟨_, rfl, _, _, rfl, M.pick [0] aL⟩
 clear K M h;rintro kk fuel ⟨l5, i3, i4, i5⟩ a w hk1 ⟨A4, c4, K, M⟩ h;unfold vK at h;refine wp_seq (aB ?_);refine aK K M ?_; clear K; intro a K;refine aJ (aA (wp_seq ?_));refine aP K rfl (fun hb => ?_) (fun hb => ?_)
 ·have h := aM hb h;refine wp_skip (aA (wp_seq (wp_block (wp_seq (aB ?_)))));refine aK K M ?_; clear K;refine aO M ?_; intro a K;refine aJ (aA (wp_seq (aB ?_)));refine aK K M ?_; clear K;refine bA (fun _ K => pL rfl K rfl rfl aL) M ?_;iterate 2 (refine aO M ?_)
  obtain ⟨b3, HH, h⟩ := aF h;refine bA (fun _ K => tO rfl qR K rfl rfl HH) M ?_;refine bA (fun _ K => gH rfl rfl DM K rfl) M ?_;refine bA (fun _ K => Ih rfl K rfl rfl) M ?_;iterate 2 (refine aO M ?_)
  obtain ⟨Il, hx, h⟩ := g9 h;refine bA (fun _ K => nH hx (bU rfl K rfl)) M ?_;obtain ⟨GY, hx, h⟩ := g9 h;refine bA (fun _ K => nH hx (bU rfl K rfl)) M ?_; intro a K;refine aJ (aA (wp_block ?_));refine kT (id := 2) (Rel := fun (⟨l8, i8, i9⟩ : List Int × Int × Int) a w => ∃ (A7 : Option Addr) (c7 : Nat), Kn a 70 [(0, .string (bs d)), (1, I o), (2, I p2), (8, .slice A7 l8.length c7), (9, I i8), (10, I i9), (30, I (d.length : Int)), (31, I i5)] ∧ Mem w0.heap.size w0 w [.row 3 1 A7 l8.length c7 ((cI .i64).all l8)]) h (fun _ _ => rfl) ⟨A4, c4, K.pick [0,1,2,8,9,10,30,31], M.pick [0] aL⟩ ?_ ?_
  ·clear K M h;rintro ⟨PQ, EC, i11⟩ a w ⟨JS, c10, K, M⟩ h;try dsimp only at h
   refine gM ?_;refine dP (aA (aB ?_));refine aK K M ?_; clear K;refine aO M ?_; intro a K;refine aJ ?_;exact aA ⟨(PQ, EC, i11, IntKind.i64.wrap (i5 + 1)), ⟨JS, c10, K.pick [0,1,2,8,9,10,30,31], M.pick [0] aL⟩, h⟩
  clear K M h;rintro kk fuel ⟨l8, i8, i9⟩ a w hk2 ⟨A7, c7, K, M⟩ h;unfold vJ at h;refine wp_seq (wp_seq (aB ?_));refine aK K M ?_; clear K;iterate 3 (refine aO M ?_)
  intro a K
  rcases Bool.eq_false_or_eq_true (decide (o ≤ i9)) with hb | hb
  ·have h := aM hb h;have K := K.gN (s := 46) rfl hb;refine aK K M ?_; clear K;refine bA (fun _ K => eH rfl qG K rfl) M ?_;iterate 3 (refine aO M ?_)
   intro a K;refine aJ (aA ?_);refine aP K rfl (fun hb => ?_) (fun hb => ?_)
   ·have h := aM hb h;refine wp_skip (aA (wp_block (wp_seq (aB ?_))));refine aK K M ?_; clear K;iterate 2 (refine aO M ?_)
    obtain ⟨DK, hx, h⟩ := g9 h;refine bA (fun _ K => nH hx (bU rfl K rfl)) M ?_; intro a K;refine aJ (aA (wp_seq (aB ?_)));refine aK K M ?_; clear K;iterate 2 (refine aO M ?_)
    intro a K;obtain ⟨_, h0, h⟩ := aF h;have h0 := lP h0;refine dU K (rJ rfl K rfl rfl h0) M ?_; clear K; intro a K;refine eB K (eG rfl g7 z3 K (vs := [(0, I (j0 .i64 i8 DK))]) (cs := [I (j0 .i64 i8 DK)]) rfl cU rfl rfl M) ?_;have M0 := M; clear K M; rintro _ a w ⟨Uc, rfl, M⟩ K;replace M := M.kA 0 rfl (cI .i64) ([j0 .i64 i8 DK] : List Int) (n := 1) rfl rfl rfl;clear M0;obtain ⟨l10, Ja, h⟩ := aF h;refine eB K (kG (C := (cI .i64)) (xs := l8) (ys := ([j0 .i64 i8 DK] : List Int)) rfl g7 rfl z3 rfl rfl K rfl rfl 1 M rfl ((j6 (C := (cI .i64)) 0 rfl rfl) _ M) Ja) ?_;clear K M; rintro _ a w ⟨A9, c9, rfl, M⟩ K;refine aK K M ?_; clear K; intro a K;refine aJ (aA (aB ?_));refine aK K M ?_; clear K;refine aO M ?_; intro a K;obtain ⟨_, h0, h⟩ := aF h;have h0 := lP h0;refine dU K (pL rfl K rfl rfl h0) M ?_; clear K;iterate 2 (refine aO M ?_)
    obtain ⟨Gf, hx, h⟩ := g9 h;refine bA (fun _ K => nH hx (bU rfl K rfl)) M ?_; intro a K;refine aJ (dP ?_);exact aA ⟨(l10, Gf, DK), ⟨A9, c9, K.pick [0,1,2,8,9,10,30,31], M.pick [1] aL⟩, h⟩
   have h := aG hb h;refine wp_exit ?_;refine cP ?_;exact cP (hk2 (l8, i8, i9) _ _ ⟨A7, c7, K.pick [0,1,2,8,9,10,30,31], M.pick [0] aL⟩ h)
  have h := aG hb h;have K := K.gN (s := 46) rfl hb;refine aK K M ?_; clear K;iterate 4 (refine aO M ?_)
  intro a K;refine aJ (aA ?_);refine mQ K rfl ?_;refine wp_exit ?_;refine cP ?_;exact cP (hk2 (l8, i8, i9) _ _ ⟨A7, c7, K.pick [0,1,2,8,9,10,30,31], M.pick [0] aL⟩ h)
 have h := aG hb h;refine wp_exit ?_;refine cP ?_;exact cP (hk1 (l5, i3, i4, i5) _ _ ⟨A4, c4, K.pick [0,1,2,8,9,10,30,31], M.pick [0] aL⟩ h)
theorem Ep {N : Nat} {s : List UInt8} {w0 : World} {r : List UInt8} (h : zJ N s = some r) :
  Calls Tryz.prog 177 #[.string (bs s)] w0 fun e w' => ∃ v, e = .returned v ∧ v = .string (bs r) ∧ Mem w0.heap.size w0 w' [] := by
 refine cR Tryz.func177 rfl Tryz.ntmps177 rfl ?_;intro a K;have M := Mem.start w0;have K : Kn a 18 [(0, _)] := K;unfold zJ at h;refine wp_seq (aB ?_);refine aK K M ?_; clear K; intro a K;refine aJ (aA (wp_seq (aB ?_)));refine eB K (fV rfl (show lH Tryz.prog 148 = some [.pointer none, .slice none 0 0] by kernel_rfl) M) ?_;have M0 := M; clear K M; rintro _ a w ⟨Ro, rfl, M⟩ K;replace M := Mem.Q9 5 M;clear M0;refine aJ (aA (wp_seq (wp_seq (aB ?_))));refine aK K M ?_; clear K; intro a K;refine aJ (aA (wp_block ?_));refine kT (id := 0) (Rel := fun (⟨l2, i⟩ : List UInt8 × Int) a w => ∃ (A : Option Addr) (c : Nat), Kn a 18 [(0, .string (bs s)), (3, .pointer (some ⟨Ro, 0, none⟩)), (4, I i)] ∧ Mem w0.heap.size w0 w [.row 5 1 A l2.length c ((cI .u8).all (pN l2)), .DS Ro 148 A l2.length c]) h (fun _ _ => rfl) ⟨none, 0, K.pick [0,3,4], M.pick [0,1] aL⟩ ?_ ?_
 ·clear K M h;rintro ⟨l3, i4⟩ a w ⟨A4, c4, K, M⟩ h;try dsimp only at h
  refine gM ?_;refine aA (wp_seq (aB ?_));refine eB K (k7 (vs := [.pointer (some ⟨Ro, 0, none⟩)]) (cap := []) rfl Rm K rfl rfl (Dt (show Mem _ _ _ [.DS Ro 148 A4 l3.length c4, .row 5 1 A4 l3.length c4 ((cI .u8).all (pN l3))] from M.pick [1,0] aL))) ?_;clear K M; rintro _ a w ⟨rfl, M⟩ K;refine aK K M ?_; clear K; intro a K;refine aJ (aA (wp_ret ?_));cases h;exact dD K rfl (aE K rfl) ⟨_, rfl, rfl, M.pick [] aL⟩
 clear K M h;rintro kk fuel ⟨l2, i⟩ a w hk1 ⟨A, c, K, M⟩ h;unfold yI at h;refine wp_seq (wp_seq (aB ?_));refine aK K M ?_; clear K;refine aO M ?_;refine bA (fun _ K => lA rfl qR K rfl) M ?_;refine aO M ?_; intro a K;refine aJ (aA ?_);refine aP K rfl (fun hb => ?_) (fun hb => ?_)
 ·have h := aM hb h;refine wp_skip (aA (wp_seq (wp_block (aB ?_))));refine aK K M ?_; clear K;refine aO M ?_;obtain ⟨b3, HH, h⟩ := aF h;refine bA (fun _ K => tO rfl qR K rfl rfl HH) M ?_;refine bA (fun _ K => gH rfl rfl DM K rfl) M ?_; intro a K;obtain ⟨r3, lE, h⟩ := aF h;refine eB K (gF OH K (CH lE)) ?_;clear K; rintro _ a w ⟨rfl, Zq⟩ K;replace M := M.call Zq; clear Zq;obtain ⟨b4, OQ, h⟩ := aF h;refine eB K (k7 (vs := [.pointer (some ⟨Ro, 0, none⟩), .string (bs r3)]) (cap := []) rfl FI K rfl rfl (sJ (show Mem _ _ _ [.DS Ro 148 A l2.length c, .row 5 1 A l2.length c ((cI .u8).all (pN l2))] from M.pick [1,0] aL) OQ)) ?_;clear K M; rintro _ a w ⟨A3, c3, M⟩ K;refine aJ (dP (aA (aB ?_)));refine aK K M ?_; clear K;refine aO M ?_;obtain ⟨i3, hx, h⟩ := g9 h;refine bA (fun _ K => nH hx (bU rfl K rfl)) M ?_; intro a K;refine aJ ?_;exact aA ⟨(b4, i3), ⟨A3, c3, K.pick [0,3,4], M.pick [1,0] aL⟩, h⟩
 have h := aG hb h;refine wp_exit ?_;refine cP ?_;exact cP (hk1 (l2, i) _ _ ⟨A, c, K.pick [0,3,4], M.pick [0,1] aL⟩ h)
theorem HI {N : Nat} {b : List UInt8} {w0 : World} {r : Int × Int} (h : AS N b = some r) :
  Calls Tryz.prog 179 #[.string (bs b)] w0 fun e w' => ∃ v, e = .returned v ∧ v = .tuple #[I r.1, I r.2] ∧ Mem w0.heap.size w0 w' [] := by
 refine cR Tryz.func179 rfl Tryz.ntmps179 rfl ?_;intro a K;have M := Mem.start w0;have K : Kn a 27 [(0, _)] := K;unfold AS at h;refine wp_seq (aB ?_);refine aK K M ?_; clear K;refine aO M ?_; intro a K;refine aJ (aA (wp_seq (wp_seq (aB ?_))));refine aK K M ?_; clear K; intro a K;obtain ⟨r2, hU, h⟩ := aF h;refine eB K (gF OJ K (FN hU)) ?_;clear K; rintro _ a w ⟨rfl, Zq⟩ K;replace M := M.call Zq; clear Zq;refine aK K M ?_; clear K; intro a K;refine aJ (aA ?_);refine aP K rfl (fun hb => ?_) (fun hb => ?_)
 ·have h := aM hb h;refine wp_seq (aB ?_);refine aK K M ?_; clear K;refine aO M ?_; intro a K;refine aJ (aA (wp_ret (aI ?_)));cases h;exact iJ K rfl (aE K rfl) (aE K rfl) ⟨_, rfl, rfl, M.pick [] aL⟩
 have h := aG hb h;refine wp_skip (aA (wp_seq (wp_seq (aB ?_))));refine aK K M ?_; clear K;refine bA (fun _ K => lA rfl qR K rfl) M ?_;refine aO M ?_; intro a K;refine aJ (aA ?_);refine aP K rfl (fun hb => ?_) (fun hb => ?_)
 ·have h := aM hb h;refine wp_seq (aB ?_);refine aK K M ?_; clear K;refine aO M ?_; intro a K;refine aJ (aA (wp_ret (aI ?_)));cases h;exact iJ K rfl (aE K rfl) (aE K rfl) ⟨_, rfl, rfl, M.pick [] aL⟩
 have h := aG hb h;refine wp_skip (aA (wp_seq (aB ?_)));refine aK K M ?_; clear K; intro a K;refine aJ (aA (wp_seq (wp_seq (aB ?_))));refine aK K M ?_; clear K;refine bA (fun _ K => lA rfl qR K rfl) M ?_;refine aO M ?_; intro a K;refine aJ (aA (wp_block ?_));refine kT (id := 0) (Rel := fun (⟨n, i⟩ : Int × Int) a w => Kn a 27 [(0, .string (bs b)), (4, I n), (13, I (b.length : Int)), (14, I i)] ∧ Mem w0.heap.size w0 w []) h (fun _ _ => rfl) ⟨K.pick [0,4,13,14], M.pick [] aL⟩ ?_ ?_
 ·clear K M h;rintro ⟨n4, i2⟩ a w ⟨K, M⟩ h;try dsimp only at h
  refine gM ?_;refine aA (wp_seq (aB ?_));refine aK K M ?_; clear K;iterate 2 (refine aO M ?_)
  intro a K;refine aJ (aA (wp_ret ?_));cases h;exact iJ K rfl (aE K rfl) (aE K rfl) ⟨_, rfl, rfl, M.pick [] aL⟩
 clear K M h;rintro kk fuel ⟨n, i⟩ a w hk1 ⟨K, M⟩ h;unfold wY at h;refine wp_seq (aB ?_);refine aK K M ?_; clear K; intro a K;refine aJ (aA (wp_seq ?_));refine aP K rfl (fun hb => ?_) (fun hb => ?_)
 ·have h := aM hb h;refine wp_skip (aA (wp_seq (wp_block (wp_seq (aB ?_)))));refine aK K M ?_; clear K;refine aO M ?_; intro a K;refine aJ (aA (aB ?_));refine aK K M ?_; clear K;refine bA (fun _ K => pL rfl K rfl rfl aL) M ?_;iterate 2 (refine aO M ?_)
  obtain ⟨b3, HH, h⟩ := aF h;refine bA (fun _ K => tO rfl qR K rfl rfl HH) M ?_;refine aO M ?_;refine bA (fun _ K => gH rfl rfl DM K rfl) M ?_;refine aO M ?_;obtain ⟨n3, hx, h⟩ := g9 h;refine bA (fun _ K => nH hx (bU rfl K rfl)) M ?_; intro a K;refine aJ (dP (aA (aB ?_)));refine aK K M ?_; clear K;refine aO M ?_; intro a K;refine aJ ?_;exact aA ⟨(n3, IntKind.i64.wrap (i + 1)), ⟨K.pick [0,4,13,14], M.pick [] aL⟩, h⟩
 have h := aG hb h;refine wp_exit ?_;refine cP ?_;exact cP (hk1 (n, i) _ _ ⟨K.pick [0,4,13,14], M.pick [] aL⟩ h)
theorem Bl {N : Nat} {x2 : Int} {w0 : World} {r : Bool} (h : qV N x2 = some r) :
  Calls Tryz.prog 194 #[I x2] w0 fun e w' => ∃ v, e = .returned v ∧ v = .bool r ∧ Mem w0.heap.size w0 w' [] := by
 refine cR Tryz.func194 rfl Tryz.ntmps194 rfl ?_;intro a K;have M := Mem.start w0;have K : Kn a 6 [(0, _)] := K;unfold qV at h;refine wp_seq (aB ?_);refine aK K M ?_; clear K; intro a K;refine aJ (aA (wp_seq (aB ?_)));refine aK K M ?_; clear K;iterate 3 (refine aO M ?_)
 intro a K;refine aJ (aA (wp_ret ?_));cases h;exact dD K rfl (aE K rfl) ⟨_, rfl, rfl, M.pick [] aL⟩
theorem Dv {N : Nat} {x2 y : Int} {w0 : World} {r : Int} (h : rP N x2 y = some r) :
  Calls Tryz.prog 166 #[I x2, I y] w0 fun e w' => ∃ v, e = .returned v ∧ v = I r ∧ Mem w0.heap.size w0 w' [] := by
 refine cR Tryz.func166 rfl Tryz.ntmps166 rfl ?_;intro a K;have M := Mem.start w0;have K : Kn a 20 [(0, _), (1, _)] := K;unfold rP at h;refine wp_seq (aB ?_);refine aK K M ?_; clear K; intro a K;refine aJ (aA (wp_seq (aB ?_)));refine aK K M ?_; clear K; intro a K;obtain ⟨r2, hU, h⟩ := aF h;refine eB K (gF OM K (Bl hU)) ?_;clear K; rintro _ a w ⟨rfl, Zq⟩ K;replace M := M.call Zq; clear Zq;refine aK K M ?_; clear K; intro a K;refine aJ (aA (wp_seq (aB ?_)));refine aK K M ?_; clear K; intro a K;obtain ⟨r3, lE, h⟩ := aF h;refine eB K (gF OM K (Bl lE)) ?_;clear K; rintro _ a w ⟨rfl, Zq⟩ K;replace M := M.call Zq; clear Zq;refine aK K M ?_; clear K; intro a K;refine aJ (aA (wp_seq (wp_seq (aB ?_))));refine aK K M ?_; clear K; intro a K;refine aJ (aA ?_);refine aP K rfl (fun hb => ?_) (fun hb => ?_)
 ·have h := aM hb h;refine wp_seq (wp_seq (aB ?_));refine aK K M ?_; clear K; intro a K;refine aJ (aA ?_);refine aP K rfl (fun hb => ?_) (fun hb => ?_)
  ·have h := aM hb h;refine wp_seq (aB ?_);refine aK K M ?_; clear K; intro a K;refine aJ (aA (wp_ret (aI (aI ?_))));cases h;exact dD K rfl (aE K rfl) ⟨_, rfl, rfl, M.pick [] aL⟩
  have h := aG hb h;refine wp_skip (aA (wp_seq (aB ?_)));refine aK K M ?_; clear K; intro a K;refine aJ (aA (wp_ret (aI ?_)));cases h;exact dD K rfl (aE K rfl) ⟨_, rfl, rfl, M.pick [] aL⟩
 have h := aG hb h;refine wp_skip (aA (wp_seq (wp_seq (aB ?_))));refine aK K M ?_; clear K; intro a K;refine aJ (aA ?_);refine aP K rfl (fun hb => ?_) (fun hb => ?_)
 ·have h := aM hb h;refine wp_seq (aB ?_);refine aK K M ?_; clear K; intro a K;refine aJ (aA (wp_ret (aI ?_)));cases h;exact dD K rfl (aE K rfl) ⟨_, rfl, rfl, M.pick [] aL⟩
 have h := aG hb h;refine wp_skip (aA (wp_seq (wp_seq (aB ?_))));refine aK K M ?_; clear K;iterate 2 (refine aO M ?_)
 intro a K;refine aJ (aA ?_);refine aP K rfl (fun hb => ?_) (fun hb => ?_)
 ·have h := aM hb h;refine wp_seq (aB ?_);refine aK K M ?_; clear K; intro a K;refine aJ (aA (wp_ret (aI ?_)));cases h;exact dD K rfl (aE K rfl) ⟨_, rfl, rfl, M.pick [] aL⟩
 have h := aG hb h;refine wp_skip (aA (wp_seq (wp_seq (aB ?_))));refine aK K M ?_; clear K;iterate 2 (refine aO M ?_)
 intro a K;refine aJ (aA ?_);refine aP K rfl (fun hb => ?_) (fun hb => ?_)
 ·have h := aM hb h;refine wp_seq (aB ?_);refine aK K M ?_; clear K; intro a K;refine aJ (aA (wp_ret (aI ?_)));cases h;exact dD K rfl (aE K rfl) ⟨_, rfl, rfl, M.pick [] aL⟩
 have h := aG hb h;refine wp_skip (aA (wp_seq (aB ?_)));refine aK K M ?_; clear K; intro a K;refine aJ (aA (wp_ret ?_));cases h;exact dD K rfl (aE K rfl) ⟨_, rfl, rfl, M.pick [] aL⟩
theorem AX {N : Nat} {lens : List Int} {w5 : Option Addr} {w6 : Nat} {w0 : World} {r : Int} (h : qI N lens = some r) (w7 : SL w0 (cI .i64) w5 lens) (OR : lens.length ≤ w6) :
  Calls Tryz.prog 118 #[.slice w5 lens.length w6] w0 fun e w' => ∃ v, e = .returned v ∧ v = I r ∧ Mem w0.heap.size w0 w' [] := by
 refine cR Tryz.func118 rfl Tryz.ntmps118 rfl ?_;intro a K;have M := Mem.start w0;have K : Kn a 40 [(0, _)] := K;unfold qI at h;refine wp_seq (aB ?_);refine aK K M ?_; clear K; intro a K;refine aJ (aA (wp_seq (wp_seq (aB ?_))));refine aK K M ?_; clear K;refine bA (fun _ K => eH rfl qG K rfl) M ?_;iterate 2 (refine aO M ?_)
 intro a K
 rcases Bool.eq_false_or_eq_true (decide ((lens.length : Int) < 1)) with hb | hb
 ·have h := aM hb h;have K := K.gN (s := 9) rfl hb;refine aK K M ?_; clear K;iterate 3 (refine aO M ?_)
  intro a K;refine aJ (aA ?_);refine cW K rfl ?_;refine wp_seq (aB ?_);refine aK K M ?_; clear K; intro a K;refine aJ (aA (wp_ret (aI ?_)));cases h;exact dD K rfl (aE K rfl) ⟨_, rfl, rfl, M.pick [] aL⟩
 have h := aG hb h;have K := K.gN (s := 9) rfl hb;refine aK K M ?_; clear K;refine bA (fun _ K => eH rfl qG K rfl) M ?_;iterate 2 (refine aO M ?_)
 intro a K;refine aJ (aA ?_);refine aP K rfl (fun hb => ?_) (fun hb => ?_)
 ·have h := aM hb h;refine wp_seq (aB ?_);refine aK K M ?_; clear K; intro a K;refine aJ (aA (wp_ret (aI ?_)));cases h;exact dD K rfl (aE K rfl) ⟨_, rfl, rfl, M.pick [] aL⟩
 have h := aG hb h;refine wp_skip (aA (wp_seq (aB ?_)));refine aK K M ?_; clear K; intro a K;refine aJ (aA (wp_seq (wp_seq (aB ?_))));refine aK K M ?_; clear K;refine bA (fun _ K => eH rfl qG K rfl) M ?_;refine aO M ?_; intro a K;refine aJ (aA (wp_block ?_));refine kT (id := 0) (Rel := fun (⟨room, i⟩ : Int × Int) a w => Kn a 40 [(3, I room), (14, .slice w5 lens.length w6), (15, I (lens.length : Int)), (16, I i)] ∧ Mem w0.heap.size w0 w []) h (fun _ _ => rfl) ⟨K.pick [3,14,15,16], M.pick [] aL⟩ ?_ ?_
 ·clear K M h;rintro ⟨Fs, i2⟩ a w ⟨K, M⟩ h;try dsimp only at h
  refine gM ?_;refine aA (wp_seq (wp_seq (aB ?_)));refine aK K M ?_; clear K;iterate 2 (refine aO M ?_)
  intro a K
  rcases Bool.eq_false_or_eq_true (decide (Fs < 0)) with hb | hb
  ·have h := aM hb h;have K := K.gN (s := 36) rfl hb;refine aK K M ?_; clear K;iterate 2 (refine aO M ?_)
   intro a K;refine aJ (aA ?_);refine cW K rfl ?_;refine wp_seq (aB ?_);refine aK K M ?_; clear K; intro a K;refine aJ (aA (wp_ret (aI ?_)));cases h;exact dD K rfl (aE K rfl) ⟨_, rfl, rfl, M.pick [] aL⟩
  have h := aG hb h;have K := K.gN (s := 36) rfl hb;refine aK K M ?_; clear K;iterate 2 (refine aO M ?_)
  intro a K;refine aJ (aA ?_);refine aP K rfl (fun hb => ?_) (fun hb => ?_)
  ·have h := aM hb h;refine wp_seq (aB ?_);refine aK K M ?_; clear K; intro a K;refine aJ (aA (wp_ret (aI ?_)));cases h;exact dD K rfl (aE K rfl) ⟨_, rfl, rfl, M.pick [] aL⟩
  have h := aG hb h;refine wp_skip (aA (wp_seq (aB ?_)));refine aK K M ?_; clear K; intro a K;refine aJ (aA (wp_ret ?_));cases h;exact dD K rfl (aE K rfl) ⟨_, rfl, rfl, M.pick [] aL⟩
 clear K M h;rintro kk fuel ⟨room, i⟩ a w hk1 ⟨K, M⟩ h;unfold nB at h;refine wp_seq (aB ?_);refine aK K M ?_; clear K; intro a K;refine aJ (aA (wp_seq ?_));refine aP K rfl (fun hb => ?_) (fun hb => ?_)
 ·have h := aM hb h;refine wp_skip (aA (wp_seq (wp_block (wp_seq (aB ?_)))));obtain ⟨e2, lJ, h⟩ := aF h;refine dU K (jT rfl g7 K rfl rfl (eP w7) lJ) M ?_; clear K;refine bA (fun _ K => gW rfl fF K rfl rfl (eP w7) lJ rfl) M ?_;refine aO M ?_; intro a K;refine aJ (aA (wp_seq (wp_seq (aB ?_))));refine aK K M ?_; clear K;iterate 2 (refine aO M ?_)
  intro a K
  rcases Bool.eq_false_or_eq_true (decide (e2 < 0)) with hb | hb
  ·have h := aM hb h;have K := K.gN (s := 22) rfl hb;refine aK K M ?_; clear K;iterate 2 (refine aO M ?_)
   intro a K;refine aJ (aA ?_);refine cW K rfl ?_;refine wp_seq (aB ?_);refine aK K M ?_; clear K; intro a K;refine aJ (aA (wp_ret (aI (dS (aI (aI (dS (aI ?_))))))));cases h;exact dD K rfl (aE K rfl) ⟨_, rfl, rfl, M.pick [] aL⟩
  have h := aG hb h;have K := K.gN (s := 22) rfl hb;refine aK K M ?_; clear K;iterate 2 (refine aO M ?_)
  intro a K;refine aJ (aA ?_);refine aP K rfl (fun hb => ?_) (fun hb => ?_)
  ·have h := aM hb h;refine wp_seq (aB ?_);refine aK K M ?_; clear K; intro a K;refine aJ (aA (wp_ret (aI (dS (aI (aI (dS (aI ?_))))))));cases h;exact dD K rfl (aE K rfl) ⟨_, rfl, rfl, M.pick [] aL⟩
  have h := aG hb h;refine wp_skip (aA (wp_seq (aB ?_)));refine aK K M ?_; clear K;refine aO M ?_; intro a K;refine aJ (aA ?_);refine aP K rfl (fun hb => ?_) (fun hb => ?_)
  ·have h := aM hb h;refine aB ?_;refine aK K M ?_; clear K;iterate 2 (refine aO M ?_)
   intro a K;obtain ⟨_, h0, h⟩ := aF h;have h0 := lP h0;refine dU K (pL rfl K rfl rfl h0) M ?_; clear K;refine aO M ?_;obtain ⟨Nu, hx, h⟩ := g9 h;refine bA (fun _ K => nH hx (bU rfl K rfl)) M ?_; intro a K;refine aJ (dP (aA (aB ?_)));refine aK K M ?_; clear K;refine aO M ?_; intro a K;refine aJ ?_;exact aA ⟨(Nu, IntKind.i64.wrap (i + 1)), ⟨K.pick [3,14,15,16], M.pick [] aL⟩, h⟩
  have h := aG hb h;refine wp_skip (dP (aA (aB ?_)));refine aK K M ?_; clear K;refine aO M ?_; intro a K;refine aJ ?_;exact aA ⟨(room, IntKind.i64.wrap (i + 1)), ⟨K.pick [3,14,15,16], M.pick [] aL⟩, h⟩
 have h := aG hb h;refine wp_exit ?_;refine cP ?_;exact cP (hk1 (room, i) _ _ ⟨K.pick [3,14,15,16], M.pick [] aL⟩ h)
theorem FO {N : Nat} {a2 b : Int} {v0 : List Int} {OS : Option Addr} {OT Dw : Nat} {w0 : World} {r : Int} (h : sA N a2 b v0 = some r) (KJ : SL w0 (cI .i64) OS v0) (Zn : v0.length ≤ OT) (yV : kR w0 Dw 29 #[.slice OS v0.length OT]) :
  Calls Tryz.prog 165 #[I a2, I b, .pointer (some ⟨Dw, 0, none⟩)] w0 fun e w' => ∃ v, e = .returned v ∧ v = I r ∧ Mem w0.heap.size w0 w' [] := by
 refine cR Tryz.func165 rfl Tryz.ntmps165 rfl ?_;intro a K;have M := Mem.start w0;have K : Kn a 15 [(0, _), (1, _), (2, _)] := K;unfold sA at h;refine wp_seq (aB ?_);refine aK K M ?_; clear K; intro a K;refine aJ (aA (wp_seq ?_));refine d3 (fun w => Mem _ _ w _) [0,0,0,0,0,0,0,0,1,0] cU cU M.drew ?_;replace M := M.drew;refine xB K (aH rfl lM K rfl (F9 yV) rfl) ?_; clear K;refine lD ?_;obtain ⟨e, FP, h⟩ := aF h;refine iO (fun _ K => iR rfl g7 K rfl rfl ((eP KJ) _ M) FP) ?_;refine iO (fun _ K => gW rfl fF K rfl rfl (eP KJ) FP rfl) ?_;refine iO (fun _ K => aH rfl lM K rfl (F9 yV) rfl) ?_;refine lD ?_;obtain ⟨e2, lJ, h⟩ := aF h;refine iO (fun _ K => iR rfl g7 K rfl rfl ((eP KJ) _ M) lJ) ?_;refine iO (fun _ K => gW rfl fF K rfl rfl (eP KJ) lJ rfl) ?_; intro a K;obtain ⟨r2, hU, h⟩ := aF h;refine y9 K (gF Tj K (Dv hU)) ?_;clear K; rintro _ a w ⟨rfl, Zq⟩ K;replace M := M.call Zq; clear Zq;refine ⟨M.pick [] aL, ?_⟩;refine qQ K ?_; clear K; intro a K;refine jF ?_;refine aA (wp_ret ?_);cases h;exact dD K rfl (aE K rfl) ⟨_, rfl, rfl, M.pick [] aL⟩
theorem Dx {N : Nat} {d : List Int} {Fb : Option Addr} {Fc : Nat} {w0 : World} {r : List (List UInt8) × Int} (h : oQ N d = some r) (yU : SL w0 (cI .i64) Fb d) (Rn : d.length ≤ Fc) :
  Calls Tryz.prog 123 #[.slice Fb d.length Fc] w0 fun e w' => ∃ v, e = .returned v ∧ ∃ A0 c0, v = .tuple #[.slice A0 r.1.length c0, I r.2] ∧ Mem w0.heap.size w0 w' [.row 9 1 A0 r.1.length c0 (cS.all r.1)] := by
 refine cR Tryz.func123 rfl Tryz.ntmps123 rfl ?_;intro a K;have M := Mem.start w0;have K : Kn a 74 [(0, _)] := K;unfold oQ at h;refine wp_seq (aB ?_);refine eB K (iD rfl K rfl (cs := [.slice Fb d.length Fc]) rfl M) ?_;clear K M; rintro _ a w ⟨Ee, rfl, M⟩ K;refine aK K M ?_; clear K;refine aO M ?_; intro a K;refine aJ (aA (wp_seq (wp_seq (aB ?_))));refine dU K (aH rfl lM K rfl (dO 0 rfl) rfl) M ?_; clear K; intro a K;obtain ⟨r2, hU, h⟩ := aF h;refine eB K (gF KH K (AX hU ((eP yU) _ M) Rn)) ?_;clear K; rintro _ a w ⟨rfl, Zq⟩ K;replace M := M.call Zq; clear Zq;refine aK K M ?_; clear K; intro a K;refine aJ (aA (wp_seq (aB ?_)));refine aK K M ?_; clear K;refine aO M ?_; intro a K;refine aJ (aA ?_);refine aP K rfl (fun hb => ?_) (fun hb => ?_)
 ·have h := aM hb h;refine wp_seq (aB ?_);refine aK K M ?_; clear K;iterate 2 (refine aO M ?_)
  intro a K;refine aJ (aA (wp_ret (aI ?_)));cases h;exact iJ K rfl (aE K rfl) (aE K rfl) ⟨_, rfl, _, _, rfl, (((Mem.aS 9 1 cS M)).pick [0] aL)⟩
 have h := aG hb h;refine wp_skip (aA (wp_seq (aB ?_)));refine aK K M ?_; clear K; intro a K;refine aJ (aA (wp_seq (wp_seq (aB ?_))));refine dU K (aH rfl lM K rfl (dO 0 rfl) rfl) M ?_; clear K;refine bA (fun _ K => eH rfl qG K rfl) M ?_;refine aO M ?_; intro a K;refine aJ (aA (wp_block ?_));replace M := Mem.aS 3 1 (cI .i64) M;refine kT (id := 0) (Rel := fun (⟨l3, i⟩ : List Int × Int) a w => ∃ (A2 : Option Addr) (c2 : Nat), Kn a 74 [(1, .pointer (some ⟨Ee, 0, none⟩)), (5, .slice A2 l3.length c2), (19, .slice Fb d.length Fc), (20, I (d.length : Int)), (21, I i)] ∧ Mem w0.heap.size w0 w [.row 3 1 A2 l3.length c2 ((cI .i64).all l3), .blk Ee 29 [.slice Fb d.length Fc]]) h (fun _ _ => rfl) ⟨none, 0, K.pick [1,5,19,20,21], M.pick [0,1] aL⟩ ?_ ?_
 ·clear K M h;rintro ⟨l6, i2⟩ a w ⟨A5, c5, K, M⟩ h;try dsimp only at h
  refine gM ?_;refine aA (wp_seq (aB ?_));refine aK K M ?_; clear K;refine bA (fun _ K => uD rfl K (vs := [.pointer (some ⟨Ee, 0, none⟩)]) rfl) M ?_; intro a K;refine Fm (vs := [.slice A5 l6.length c5, .func (.func 165) #[] #[.pointer (some ⟨Ee, 0, none⟩)]]) (cap := []) K (aD rfl) rfl rfl rfl Th rfl rfl ?_; clear K;refine cR Tryz.func164 rfl Tryz.ntmps164 rfl ?_;intro a K;have K : Kn a 9 [(0, .slice A5 l6.length c5), (1, .func (.func 165) #[] #[.pointer (some ⟨Ee, 0, none⟩)])] := K;refine aB ?_;refine aK K M ?_; clear K;refine aO M ?_;refine bA (fun _ K => eH rfl qG K rfl) M ?_;refine aO M ?_; intro a K;refine Fm (vs := [.slice A5 l6.length c5, I (l6.length : Int), .func (.func 165) #[] #[.pointer (some ⟨Ee, 0, none⟩)]]) (cap := []) K (aD rfl) rfl rfl rfl Tv rfl rfl ?_; clear K;refine cR Tryz.func193 rfl Tryz.ntmps193 rfl ?_;intro a K;have K : Kn a 63 [(0, .slice A5 l6.length c5), (1, I (l6.length : Int)), (2, .func (.func 165) #[] #[.pointer (some ⟨Ee, 0, none⟩)])] := K;refine wp_seq (aB ?_);refine aK K M ?_; clear K; intro a K;refine aJ (aA (wp_seq (aB ?_)));refine aK K M ?_; clear K;iterate 2 (refine aO M ?_)
  intro a K;refine aJ (aA (wp_seq (wp_block ?_)));refine Aq 1 ?_;refine kN ?_;refine wp_seq (wp_seq (aB ?_));refine aK K M ?_; clear K;iterate 2 (refine aO M ?_)
  intro a K;refine aJ (aA ?_);refine aP K rfl (fun hb => ?_) (fun hb => ?_)
  ·have h := aM hb h;cases h
  have h := aG hb h;refine wp_exit ?_;refine cP (cP ?_);refine gM ?_;refine aA (wp_seq (aB ?_));refine aK K M ?_; clear K;iterate 3 (refine aO M ?_)
  intro a K;refine Fm (vs := [.slice A5 l6.length c5, I 0, I (l6.length : Int), .func (.func 165) #[] #[.pointer (some ⟨Ee, 0, none⟩)]]) (cap := []) K (aD rfl) rfl rfl rfl Ty rfl rfl ?_; clear K;refine cR Tryz.func209 rfl Tryz.ntmps209 rfl ?_;intro a K;have K : Kn a 53 [(0, .slice A5 l6.length c5), (1, I 0), (2, I (l6.length : Int)), (3, .func (.func 165) #[] #[.pointer (some ⟨Ee, 0, none⟩)])] := K;refine wp_seq (aB ?_);refine aK K M ?_; clear K;refine aO M ?_;obtain ⟨i3, hx, h⟩ := g9 h;refine bA (fun _ K => nH hx (bU rfl K rfl)) M ?_; intro a K;refine aJ (aA (wp_block ?_));refine kT (id := 0) (Rel := fun (⟨l7, b, i4⟩ : List Int × Int × Int) a w => Kn a 53 [(0, .slice A5 l7.length c5), (1, I 0), (2, I b), (3, .func (.func 165) #[] #[.pointer (some ⟨Ee, 0, none⟩)]), (8, I i4)] ∧ Mem w0.heap.size w0 w [.row 3 1 A5 l7.length c5 ((cI .i64).all l7), .blk Ee 29 [.slice Fb d.length Fc]]) h (fun _ _ => rfl) ⟨K.pick [0,1,2,3,8], M.pick [0,1] aL⟩ ?_ ?_
  ·clear K M h;rintro ⟨Ej, b2, i7⟩ a w ⟨K, M⟩ h;try dsimp only at h
   refine gM ?_;refine s4 ?_;refine zR K rfl ⟨_, rfl, ?_⟩; clear K; intro a K;obtain ⟨_, h0, h⟩ := aF h;have h0 := CK h0;try rw [h0] at K
   try rw [h0] at M
   refine aJ (aA (wp_block ?_));refine Aq 1 ?_;refine kN ?_;refine wp_seq (wp_seq (aB ?_));refine aK K M ?_; clear K;iterate 2 (refine aO M ?_)
   intro a K;refine aJ (aA ?_);refine aP K rfl (fun hb => ?_) (fun hb => ?_)
   ·have h := aM hb h;cases h
   have h := aG hb h;refine wp_exit ?_;refine cP (cP ?_);refine gM ?_;refine s4 ?_;refine zR K rfl ⟨_, rfl, ?_⟩; clear K; intro a K;obtain ⟨_, h0, h⟩ := aF h;have h0 := CK h0;try rw [h0] at K
   try rw [h0] at M
   refine aJ ?_;refine s4 ?_;refine zR K rfl ⟨_, rfl, ?_⟩; clear K; intro a K;obtain ⟨_, h0, h⟩ := aF h;have h0 := CK h0;try rw [h0] at K
   try rw [h0] at M
   refine aJ (aA (wp_seq (aB ?_)));refine dU K (aH rfl lM K rfl (dO 1 rfl) rfl) M ?_; clear K;obtain ⟨x2, hx, h⟩ := g9 h;refine bA (fun _ K => nH hx (eH rfl qG K rfl)) M ?_; intro a K;obtain ⟨T4, V0, h⟩ := aF h;refine eB K (EW (C := cS) (z := ([] : List UInt8)) rfl rU rfl z9 rfl K rfl rfl M V0) ?_;clear K M; rintro _ a w ⟨A6, c6, rfl, M⟩ K;refine aK K M ?_; clear K; intro a K;refine aJ (aA (wp_seq (aB ?_)));refine aK K M ?_; clear K; intro a K;refine aJ (aA (wp_seq (wp_seq (aB ?_))));refine aK K M ?_; clear K;refine bA (fun _ K => eH rfl qG K rfl) M ?_;refine aO M ?_; intro a K;refine aJ (aA (wp_block ?_));refine kT (id := 2) (Rel := fun (⟨PO, i8, i9⟩ : List (List UInt8) × Int × Int) a w => Kn a 74 [(1, .pointer (some ⟨Ee, 0, none⟩)), (8, .slice A6 PO.length c6), (9, I i8), (39, .slice A5 Ej.length c5), (40, I (Ej.length : Int)), (41, I i9)] ∧ Mem w0.heap.size w0 w [.row 9 1 A6 PO.length c6 (cS.all PO), .row 3 1 A5 Ej.length c5 ((cI .i64).all Ej), .blk Ee 29 [.slice Fb d.length Fc]]) h (fun _ _ => rfl) ⟨K.pick [1,8,9,39,40,41], M.pick [0,1,2] aL⟩ ?_ ?_
   ·clear K M h;rintro ⟨QF, EC, i11⟩ a w ⟨K, M⟩ h;try dsimp only at h
    refine gM ?_;refine aA (wp_seq (aB ?_));refine aK K M ?_; clear K;iterate 2 (refine aO M ?_)
    intro a K;refine aJ (aA (wp_ret ?_));cases h;exact iJ K rfl (aE K rfl) (aE K rfl) ⟨_, rfl, _, _, rfl, M.pick [0] aL⟩
   clear K M h;rintro kk fuel ⟨PO, i8, i9⟩ a w hk4 ⟨K, M⟩ h;unfold mC at h;refine wp_seq (aB ?_);refine aK K M ?_; clear K; intro a K;refine aJ (aA (wp_seq ?_));refine aP K rfl (fun hb => ?_) (fun hb => ?_)
   ·have h := aM hb h;refine wp_skip (aA (wp_seq (wp_block (wp_seq (aB ?_)))));obtain ⟨e33, Rq, h⟩ := aF h;refine dU K (jT rfl g7 K rfl rfl (j6 (C := (cI .i64)) 1 rfl rfl) Rq) M ?_; clear K;refine bA (fun _ K => gW rfl fF K rfl rfl (j6 (C := (cI .i64)) 1 rfl rfl) Rq rfl) M ?_;refine aO M ?_; intro a K;refine aJ (aA (wp_seq ?_));refine d3 (fun w => Mem _ _ w _) [0,0,0,0,0,0,0,0,0,0,0,1,0,0,0,0,0] cU cU M.drew ?_;replace M := M.drew;refine qQ K ?_; clear K;refine iO (fun _ K => aH rfl lM K rfl (dO 2 rfl) rfl) ?_;refine lD ?_;obtain ⟨e34, Rr, h⟩ := aF h;refine iO (fun _ K => iR rfl g7 K rfl rfl ((eP yU) _ M) Rr) ?_;refine iO (fun _ K => gW rfl fF K rfl rfl (eP yU) Rr rfl) ?_;refine lD ?_; intro a K;obtain ⟨_, h0, h⟩ := aF h;have h0 := lP h0;refine xB K (rJ rfl K rfl rfl h0) ?_; clear K;refine iO (fun _ K => aH rfl lM K rfl (dO 2 rfl) rfl) ?_;refine lD ?_;obtain ⟨e35, Rs, h⟩ := aF h;refine iO (fun _ K => iR rfl g7 K rfl rfl ((eP yU) _ M) Rs) ?_;refine iO (fun _ K => gW rfl fF K rfl rfl (eP yU) Rs rfl) ?_; intro a K;obtain ⟨r7, Ef, h⟩ := aF h;refine y9 K (gF FK K (tE Ef)) ?_;clear K; rintro _ a w ⟨rfl, Zq⟩ K;replace M := M.call Zq; clear Zq;refine ⟨M.pick [0,1,2] aL, ?_⟩;refine qQ K ?_; clear K;iterate 4 (refine lD ?_)
    intro a K;refine jF ?_;refine aA (wp_seq (aB ?_));refine aK K M ?_; clear K;iterate 2 (refine aO M ?_)
    obtain ⟨e36, V1, h⟩ := aF h;refine bA (fun _ K => jT rfl rU K rfl rfl (j6 (C := cS) 0 rfl rfl) V1) M ?_; intro a K;obtain ⟨YB, Ru, h⟩ := aF h;refine mD K (oF (el := r7.1) rfl Z2 rfl rfl K rfl rfl rfl 0 M rfl Ru) ?_;have M0 := M; clear K M; rintro _ a w M K;have hl := qT Ru;try rw [hl] at M
    try rw [hl] at K
    clear hl;clear M0;refine aJ (aA (aB ?_));refine aK K M ?_; clear K;refine bA (fun _ K => aH rfl lM K rfl (dO 2 rfl) rfl) M ?_;refine aO M ?_;obtain ⟨e37, Rv, h⟩ := aF h;refine bA (fun _ K => jT rfl g7 K rfl rfl (eP yU) Rv) M ?_;refine bA (fun _ K => gW rfl fF K rfl rfl (eP yU) Rv rfl) M ?_;refine aO M ?_; intro a K;obtain ⟨_, h0, h⟩ := aF h;have h0 := lP h0;refine dU K (pL rfl K rfl rfl h0) M ?_; clear K;refine aO M ?_;obtain ⟨x4, hx, h⟩ := g9 h;refine bA (fun _ K => nH hx (bU rfl K rfl)) M ?_; intro a K;refine aJ (dP (aA (aB ?_)));refine aK K M ?_; clear K;refine aO M ?_; intro a K;refine aJ ?_;exact aA ⟨(YB, x4, IntKind.i64.wrap (i9 + 1)), ⟨K.pick [1,8,9,39,40,41], M.pick [0,1,2] aL⟩, h⟩
   have h := aG hb h;refine wp_exit ?_;refine cP ?_;exact cP (hk4 (PO, i8, i9) _ _ ⟨K.pick [1,8,9,39,40,41], M.pick [0,1,2] aL⟩ h)
  clear K M h;rintro kk fuel ⟨l7, b, i4⟩ a w hk2 ⟨K, M⟩ h;unfold k8 at h;refine wp_seq (wp_seq (aB ?_));refine aK K M ?_; clear K;iterate 2 (refine aO M ?_)
  intro a K;refine aJ (aA ?_);refine aP K rfl (fun hb => ?_) (fun hb => ?_)
  ·have h := aM hb h;refine wp_skip (aA (wp_seq (wp_block (wp_seq (aB ?_)))));refine aK K M ?_; clear K;refine aO M ?_; intro a K;refine aJ (aA (wp_block ?_));refine kT (id := 2) (Rel := fun (⟨J5, j4⟩ : List Int × Int) a w => Kn a 53 [(0, .slice A5 J5.length c5), (1, I 0), (2, I b), (3, .func (.func 165) #[] #[.pointer (some ⟨Ee, 0, none⟩)]), (8, I i4), (9, I j4)] ∧ Mem w0.heap.size w0 w [.row 3 1 A5 J5.length c5 ((cI .i64).all J5), .blk Ee 29 [.slice Fb d.length Fc]]) h (fun _ _ => rfl) ⟨K.pick [0,1,2,3,8,9], M.pick [0,1] aL⟩ ?_ ?_
   ·clear K M h;rintro ⟨U0, j9⟩ a w ⟨K, M⟩ h;try dsimp only at h
    refine gM ?_;refine dP (aA (aB ?_));refine aK K M ?_; clear K;refine aO M ?_;obtain ⟨i6, hx, h⟩ := g9 h;refine bA (fun _ K => nH hx (bU rfl K rfl)) M ?_; intro a K;refine aJ ?_;exact aA ⟨(U0, b, i6), ⟨K.pick [0,1,2,3,8], M.pick [0,1] aL⟩, h⟩
   clear K M h;rintro kk fuel ⟨J5, j4⟩ a w hk3 ⟨K, M⟩ h;unfold oN at h;refine wp_seq (wp_seq ?_);refine d3 (fun w => Mem _ _ w _) [0,0,0,0,0,0,0,0,0,0,0,0,0,0,1,0,0] cU cU M.drew ?_;replace M := M.drew;refine qQ K ?_; clear K;iterate 3 (refine lD ?_)
   intro a K
   rcases Bool.eq_false_or_eq_true (decide (0 < j4)) with hb | hb
   ·have h := aM hb h;have K := K.gN (s := 21) rfl hb;refine qQ K ?_; clear K;iterate 2 (refine lD ?_)
    obtain ⟨e20, Rw, h⟩ := aF h;refine iO (fun _ K => iR rfl g7 K rfl rfl ((j6 (C := (cI .i64)) 0 rfl rfl) _ M) Rw) ?_;refine iO (fun _ K => gW rfl fF K rfl rfl (j6 (C := (cI .i64)) 0 rfl rfl) Rw rfl) ?_;iterate 3 (refine lD ?_)
    obtain ⟨e21, Rx, h⟩ := aF h;refine iO (fun _ K => iR rfl g7 K rfl rfl ((j6 (C := (cI .i64)) 0 rfl rfl) _ M) Rx) ?_;refine iO (fun _ K => gW rfl fF K rfl rfl (j6 (C := (cI .i64)) 0 rfl rfl) Rx rfl) ?_; intro a K;obtain ⟨r5, tP, h⟩ := aF h;refine y9 K (k7 (vs := [I e20, I e21]) (cap := [.pointer (some ⟨Ee, 0, none⟩)]) rfl Ti K rfl rfl (FO tP ((eP yU) _ M) Rn (M.eA (i := 1) rfl))) ?_;clear K; rintro _ a w ⟨rfl, Zq⟩ K;replace M := M.call Zq; clear Zq;refine ⟨M.pick [0,1] aL, ?_⟩;refine qQ K ?_; clear K;refine lD ?_; intro a K;refine jF ?_;refine aA ?_;refine aP K rfl (fun hb => ?_) (fun hb => ?_)
    ·have h := aM hb h;refine wp_skip (aA (wp_seq (wp_block ?_)));refine uR (fun w => Mem _ _ w _) [0,0,0,0,0,0,0,0,0,1,0,0,0,1,0,1,0,2] 18 [0,1,2,3,4,5,6,7,8,9,10,11,12,13,14,15,16,17] cU cU cU rfl (M.pick [1] aL).drew ?_;replace M := M.drew;refine eL 0 [1,2,3,4,5,6,7,8,9,10,11,12,13,14,15,16,17] cU rfl K (aD rfl) rfl rfl (dZ rfl K rfl) ?_; clear K; intro a K;refine eL 1 [2,3,4,5,6,7,8,9,10,11,12,13,14,15,16,17] cU rfl K (aD rfl) rfl rfl (dZ rfl K rfl) ?_; clear K; intro a K;refine eL 2 [3,4,5,6,7,8,9,10,11,12,13,14,15,16,17] cU rfl K (aD rfl) rfl rfl (dZ rfl K rfl) ?_; clear K; intro a K;refine eL 3 [4,5,6,7,8,9,10,11,12,13,14,15,16,17] cU rfl K (aD rfl) rfl rfl (dZ rfl K rfl) ?_; clear K; intro a K;refine eL 4 [5,6,7,8,9,10,11,12,13,14,15,16,17] cU rfl K (aD rfl) rfl rfl (BE rfl K rfl rfl) ?_; clear K; intro a K;refine eL 5 [6,7,8,9,10,11,12,13,14,15,16,17] cU rfl K (aD rfl) rfl rfl (dZ rfl K rfl) ?_; clear K; intro a K;refine eL 6 [7,8,9,10,11,12,13,14,15,16,17] cU rfl K (aD rfl) rfl rfl (dZ rfl K rfl) ?_; clear K; intro a K;refine eL 7 [8,9,10,11,12,13,14,15,16,17] cU rfl K (aD rfl) rfl rfl (BE rfl K rfl rfl) ?_; clear K; intro a K;obtain ⟨e22, OU, h⟩ := aF h;refine eL 8 [9,10,11,12,13,14,15,16,17] cU rfl K (aD rfl) rfl rfl (iR rfl g7 K rfl rfl ((j6 (C := (cI .i64)) 0 rfl rfl) _ M) OU) ?_; clear K; intro a K;refine eL 10 [9,11,12,13,14,15,16,17] cU rfl K (aD rfl) rfl rfl (dZ rfl K rfl) ?_; clear K; intro a K;refine eL 11 [9,12,13,14,15,16,17] cU rfl K (aD rfl) rfl rfl (dZ rfl K rfl) ?_; clear K; intro a K;obtain ⟨e23, OV, h⟩ := aF h;refine eL 12 [9,13,14,15,16,17] cU rfl K (aD rfl) rfl rfl (iR rfl g7 K rfl rfl ((j6 (C := (cI .i64)) 0 rfl rfl) _ M) OV) ?_; clear K; intro a K;refine jI [9,13] cU ⟨?_, ?_, trivial⟩
     ·
      refine Bi [13,14,15,16,17] cU rfl K (aD rfl) rfl rfl (gW rfl fF K rfl rfl (j6 (C := (cI .i64)) 0 rfl rfl) OU rfl) M ?_; clear K; intro a K;refine ⟨fun _ => M.pick [1] aL, ?_⟩;refine jI [13] cU ⟨?_, trivial⟩;refine Bi [14,15,16,17] cU rfl K (aD rfl) rfl rfl (gW rfl fF K rfl rfl (j6 (C := (cI .i64)) 0 rfl rfl) OV rfl) M ?_; clear K; intro a K;refine ⟨fun _ => M.pick [1] aL, ?_⟩;obtain ⟨e24, V2, h⟩ := aF h;refine eL 14 [15,16,17] cU rfl K (aD rfl) rfl rfl (iR rfl g7 K rfl rfl ((j6 (C := (cI .i64)) 0 rfl rfl) _ M) V2) ?_; clear K; intro a K;refine jI [15] cU ⟨?_, trivial⟩;obtain ⟨Yz, Ry, h⟩ := aF h;refine xG [16,17] cU rfl K (aD rfl) rfl (oF (el := e22) rfl Cp rfl rfl K rfl rfl rfl 0 M rfl Ry) ?_;have M0 := M; clear K M; rintro _ a w M K;have hl := qT Ry;try rw [hl] at M
      try rw [hl] at K
      clear hl;clear M0;refine ⟨fun _ => M.pick [1] aL, ?_⟩;obtain ⟨e25, V3, h⟩ := aF h;refine eL 16 [17] cU rfl K (aD rfl) rfl rfl (iR rfl g7 K rfl rfl ((j6 (C := (cI .i64)) 0 rfl rfl) _ M) V3) ?_; clear K; intro a K;refine jI [17] cU ⟨?_, trivial⟩;obtain ⟨YA, Rz, h⟩ := aF h;refine xG [] cU rfl K (aD rfl) rfl (oF (el := e23) rfl Cp rfl rfl K rfl rfl rfl 0 M rfl Rz) ?_;have M0 := M; clear K M; rintro _ a w M K;have hl := qT Rz;try rw [hl] at M
      try rw [hl] at K
      clear hl;clear M0;refine ⟨fun h => absurd h aL, ?_⟩;refine pG ?_;refine dP (aA (aB ?_));refine aK K M ?_; clear K;refine aO M ?_;obtain ⟨j7, hx, h⟩ := g9 h;refine bA (fun _ K => nH hx (bU rfl K rfl)) M ?_; intro a K;refine aJ ?_;exact aA ⟨(YA, j7), ⟨K.pick [0,1,2,3,8,9], M.pick [0,1] aL⟩, h⟩
     ·
      refine Bi [9,14,15,16,17] cU rfl K (aD rfl) rfl rfl (gW rfl fF K rfl rfl (j6 (C := (cI .i64)) 0 rfl rfl) OV rfl) M ?_; clear K; intro a K;refine ⟨fun _ => M.pick [1] aL, ?_⟩;refine jI [9] cU ⟨?_, trivial⟩;refine Bi [14,15,16,17] cU rfl K (aD rfl) rfl rfl (gW rfl fF K rfl rfl (j6 (C := (cI .i64)) 0 rfl rfl) OU rfl) M ?_; clear K; intro a K;refine ⟨fun _ => M.pick [1] aL, ?_⟩;obtain ⟨e26, V4, h⟩ := aF h;refine eL 14 [15,16,17] cU rfl K (aD rfl) rfl rfl (iR rfl g7 K rfl rfl ((j6 (C := (cI .i64)) 0 rfl rfl) _ M) V4) ?_; clear K; intro a K;refine jI [15] cU ⟨?_, trivial⟩;obtain ⟨l20, RA, h⟩ := aF h;refine xG [16,17] cU rfl K (aD rfl) rfl (oF (el := e22) rfl Cp rfl rfl K rfl rfl rfl 0 M rfl RA) ?_;have M0 := M; clear K M; rintro _ a w M K;have hl := qT RA;try rw [hl] at M
      try rw [hl] at K
      clear hl;clear M0;refine ⟨fun _ => M.pick [1] aL, ?_⟩;obtain ⟨e27, V5, h⟩ := aF h;refine eL 16 [17] cU rfl K (aD rfl) rfl rfl (iR rfl g7 K rfl rfl ((j6 (C := (cI .i64)) 0 rfl rfl) _ M) V5) ?_; clear K; intro a K;refine jI [17] cU ⟨?_, trivial⟩;obtain ⟨l21, RB, h⟩ := aF h;refine xG [] cU rfl K (aD rfl) rfl (oF (el := e23) rfl Cp rfl rfl K rfl rfl rfl 0 M rfl RB) ?_;have M0 := M; clear K M; rintro _ a w M K;have hl := qT RB;try rw [hl] at M
      try rw [hl] at K
      clear hl;clear M0;refine ⟨fun h => absurd h aL, ?_⟩;refine pG ?_;refine dP (aA (aB ?_));refine aK K M ?_; clear K;refine aO M ?_;obtain ⟨j8, hx, h⟩ := g9 h;refine bA (fun _ K => nH hx (bU rfl K rfl)) M ?_; intro a K;refine aJ ?_;exact aA ⟨(l21, j8), ⟨K.pick [0,1,2,3,8,9], M.pick [0,1] aL⟩, h⟩
    have h := aG hb h;refine wp_exit ?_;refine cP ?_;exact cP (hk3 (J5, j4) _ _ ⟨K.pick [0,1,2,3,8,9], M.pick [0,1] aL⟩ h)
   have h := aG hb h;have K := K.gN (s := 21) rfl hb;refine qQ K ?_; clear K;iterate 9 (refine lD ?_)
   intro a K;refine jU K (K.no rfl rfl rfl rfl) rfl rfl (M.pick [0,1] aL) ?_; clear K; intro a K;refine qQ K ?_; clear K;refine lD ?_; intro a K;refine jF ?_;refine aA ?_;refine mQ K rfl ?_;refine wp_exit ?_;refine cP ?_;exact cP (hk3 (J5, j4) _ _ ⟨K.pick [0,1,2,3,8,9], M.pick [0,1] aL⟩ h)
  have h := aG hb h;refine wp_exit ?_;refine cP ?_;exact cP (hk2 (l7, b, i4) _ _ ⟨K.pick [0,1,2,3,8], M.pick [0,1] aL⟩ h)
 clear K M h;rintro kk fuel ⟨l3, i⟩ a w hk1 ⟨A2, c2, K, M⟩ h;unfold nE at h;refine wp_seq (aB ?_);refine aK K M ?_; clear K; intro a K;refine aJ (aA (wp_seq ?_));refine aP K rfl (fun hb => ?_) (fun hb => ?_)
 ·have h := aM hb h;refine wp_skip (aA (wp_seq (wp_block (wp_seq (aB ?_)))));refine aK K M ?_; clear K;obtain ⟨e3, sK, h⟩ := aF h;refine bA (fun _ K => jT rfl g7 K rfl rfl (eP yU) sK) M ?_;refine bA (fun _ K => gW rfl fF K rfl rfl (eP yU) sK rfl) M ?_;iterate 2 (refine aO M ?_)
  intro a K;refine aJ (aA (wp_seq (aB ?_)));refine aK K M ?_; clear K;refine aO M ?_; intro a K;refine aJ (aA ?_);refine aP K rfl (fun hb => ?_) (fun hb => ?_)
  ·have h := aM hb h;refine aB ?_;refine aK K M ?_; clear K;refine aO M ?_; intro a K;refine eB K (eG rfl g7 z3 K (vs := [(0, I i)]) (cs := [I i]) rfl cU rfl rfl M) ?_;have M0 := M; clear K M; rintro _ a w ⟨TA, rfl, M⟩ K;replace M := M.kA 0 rfl (cI .i64) ([i] : List Int) (n := 1) rfl rfl rfl;clear M0;obtain ⟨l5, AW, h⟩ := aF h;refine eB K (kG (C := (cI .i64)) (xs := l3) (ys := ([i] : List Int)) rfl g7 rfl z3 rfl rfl K rfl rfl 1 M rfl ((j6 (C := (cI .i64)) 0 rfl rfl) _ M) AW) ?_;clear K M; rintro _ a w ⟨A4, c4, rfl, M⟩ K;refine aK K M ?_; clear K; intro a K;refine aJ (dP (aA (aB ?_)));refine aK K M ?_; clear K;refine aO M ?_; intro a K;refine aJ ?_;exact aA ⟨(l5, IntKind.i64.wrap (i + 1)), ⟨A4, c4, K.pick [1,5,19,20,21], M.pick [1,2] aL⟩, h⟩
  have h := aG hb h;refine wp_skip (dP (aA (aB ?_)));refine aK K M ?_; clear K;refine aO M ?_; intro a K;refine aJ ?_;exact aA ⟨(l3, IntKind.i64.wrap (i + 1)), ⟨A2, c2, K.pick [1,5,19,20,21], M.pick [0,1] aL⟩, h⟩
 have h := aG hb h;refine wp_exit ?_;refine cP ?_;exact cP (hk1 (l3, i) _ _ ⟨A2, c2, K.pick [1,5,19,20,21], M.pick [0,1] aL⟩ h)
theorem Jb {N : Nat} {d : List Int} {Fb : Option Addr} {Fc : Nat} {o : List UInt8} {p2 : Int} {w0 : World} {r : List Int × List UInt8 × Int} (h : BL N d o p2 = some r) (yU : SL w0 (cI .i64) Fb d) (Rn : d.length ≤ Fc) :
  Calls Tryz.prog 197 #[.slice Fb d.length Fc, .string (bs o), I p2] w0 fun e w' => ∃ v, e = .returned v ∧ ∃ A0 c0, v = .tuple #[.slice A0 r.1.length c0, .string (bs r.2.1), I r.2.2] ∧ Mem w0.heap.size w0 w' [.row 3 1 A0 r.1.length c0 ((cI .i64).all r.1)] := by
 refine cR Tryz.func197 rfl Tryz.ntmps197 rfl ?_;intro a K;have M := Mem.start w0;have K : Kn a 79 [(0, _), (1, _), (2, _)] := K;unfold BL at h;refine wp_seq (aB ?_);refine aK K M ?_; clear K;iterate 2 (refine aO M ?_)
 intro a K;refine aJ (aA (wp_seq (aB ?_)));refine aK K M ?_; clear K; intro a K;obtain ⟨r2, hU, h⟩ := aF h;refine eB K (gF OA K (Dx hU ((eP yU) _ M) Rn)) ?_;clear K; rintro _ a w ⟨A, c, rfl, Zq⟩ K;replace M := M.call Zq; clear Zq;refine aK K M ?_; clear K;iterate 4 (refine aO M ?_)
 intro a K;refine aJ (aA (wp_seq (wp_seq (aB ?_))));refine aK K M ?_; clear K;refine aO M ?_; intro a K;refine aJ (aA ?_);refine aP K rfl (fun hb => ?_) (fun hb => ?_)
 ·have h := aM hb h;refine wp_seq (aB ?_);refine aK K M ?_; clear K;iterate 3 (refine aO M ?_)
  intro a K;refine aJ (aA (wp_ret (aI ?_)));cases h;exact J0 K rfl (aE K rfl) (aE K rfl) (aE K rfl) ⟨_, rfl, _, _, rfl, (((Mem.aS 3 1 (cI .i64) M)).pick [0] aL)⟩
 have h := aG hb h;refine wp_skip (aA (wp_seq (wp_seq (aB ?_))));refine aK K M ?_; clear K;iterate 2 (refine aO M ?_)
 intro a K
 rcases Bool.eq_false_or_eq_true (decide (p2 < 0)) with hb | hb
 ·have h := aM hb h;have K := K.gN (s := 29) rfl hb;refine aK K M ?_; clear K;iterate 2 (refine aO M ?_)
  intro a K;refine aJ (aA ?_);refine cW K rfl ?_;refine wp_seq (aB ?_);refine aK K M ?_; clear K;iterate 2 (refine aO M ?_)
  intro a K;refine aJ (aA (wp_ret (aI ?_)));cases h;exact J0 K rfl (aE K rfl) (aE K rfl) (aE K rfl) ⟨_, rfl, _, _, rfl, (((Mem.aS 3 1 (cI .i64) M)).pick [0] aL)⟩
 have h := aG hb h;have K := K.gN (s := 29) rfl hb;refine aK K M ?_; clear K;iterate 2 (refine aO M ?_)
 intro a K;refine aJ (aA ?_);refine aP K rfl (fun hb => ?_) (fun hb => ?_)
 ·have h := aM hb h;refine wp_seq (aB ?_);refine aK K M ?_; clear K;iterate 2 (refine aO M ?_)
  intro a K;refine aJ (aA (wp_ret (aI ?_)));cases h;exact J0 K rfl (aE K rfl) (aE K rfl) (aE K rfl) ⟨_, rfl, _, _, rfl, (((Mem.aS 3 1 (cI .i64) M)).pick [0] aL)⟩
 have h := aG hb h;refine wp_skip (aA (wp_seq (wp_seq (aB ?_))));refine aK K M ?_; clear K; intro a K;obtain ⟨r3, lE, h⟩ := aF h;refine eB K (gF OC K (Du lE)) ?_;clear K; rintro _ a w ⟨rfl, Zq⟩ K;replace M := M.call Zq; clear Zq;refine aK K M ?_; clear K;iterate 4 (refine aO M ?_)
 intro a K;refine aJ (aA (wp_seq (aB ?_)));refine aK K M ?_; clear K;refine aO M ?_; intro a K;refine aJ (aA ?_);refine aP K rfl (fun hb => ?_) (fun hb => ?_)
 ·have h := aM hb h;refine wp_seq (aB ?_);refine aK K M ?_; clear K;iterate 2 (refine aO M ?_)
  intro a K;refine aJ (aA (wp_ret (aI ?_)));cases h;exact J0 K rfl (aE K rfl) (aE K rfl) (aE K rfl) ⟨_, rfl, _, _, rfl, (((Mem.aS 3 1 (cI .i64) M)).pick [0] aL)⟩
 have h := aG hb h;refine wp_skip (aA (wp_seq (aB ?_)));refine aK K M ?_; clear K; intro a K;refine Fm (vs := [.slice A r2.1.length c]) (cap := []) K (aD rfl) rfl rfl rfl Tz rfl rfl ?_; clear K;refine cR Tryz.func220 rfl Tryz.ntmps220 rfl ?_;intro a K;have K : Kn a 44 [(0, .slice A r2.1.length c)] := K;refine wp_seq (aB ?_);refine aK K M ?_; clear K; intro a K;refine aJ (aA (wp_seq (aB ?_)));refine eB K (KG rfl 9 3 M) ?_;clear K M; rintro _ a w ⟨gm, rfl, M⟩ K;refine aK K M ?_; clear K; intro a K;refine aJ (aA (wp_seq (wp_seq (aB ?_))));refine aK K M ?_; clear K;refine bA (fun _ K => eH rfl EH K rfl) M ?_;refine aO M ?_; intro a K;refine aJ (aA (wp_block ?_));refine kT (id := 0) (Rel := fun (⟨m, i⟩ : List (List UInt8 × Int) × Int) a w => Kn a 44 [(3, .map (some gm)), (10, .slice A r2.1.length c), (11, I (r2.1.length : Int)), (12, I i)] ∧ Mem w0.heap.size w0 w [.DJ Tryz.prog 9 3 gm m, .row 9 1 A r2.1.length c (cS.all r2.1)]) h (fun _ _ => rfl) ⟨K.pick [3,10,11,12], M.pick [0,1] aL⟩ ?_ ?_
 ·clear K M h;rintro ⟨m10, i5⟩ a w ⟨K, M⟩ h;try dsimp only at h
  refine gM ?_;refine aA (wp_seq (aB ?_));refine aK K M ?_; clear K;refine aO M ?_; intro a K;refine aJ (aA (wp_ret ?_));refine dD K rfl (aE K rfl) ⟨_, rfl, ?_⟩; clear K; intro a K;refine aK K M ?_; clear K; intro a K;refine aJ (aA (wp_seq (aB ?_)));refine aK K M ?_; clear K; intro a K;refine aJ (aA (wp_seq (wp_block ?_)));replace M := Mem.aS 3 1 (cI .i64) M;refine kT (id := 0) (Rel := fun (⟨l3, o2⟩ : List Int × List UInt8) a w => ∃ (A3 : Option Addr) (c3 : Nat), Kn a 79 [(1, .string (bs o2)), (2, I p2), (13, .map (some gm)), (14, .slice A3 l3.length c3)] ∧ Mem w0.heap.size w0 w [.row 3 1 A3 l3.length c3 ((cI .i64).all l3), .DJ Tryz.prog 9 3 gm m10]) h (fun _ _ => rfl) ⟨none, 0, K.pick [1,2,13,14], M.pick [0,1] aL⟩ ?_ ?_
  ·clear K M h;rintro ⟨l6, o3⟩ a w ⟨A6, c6, K, M⟩ h;try dsimp only at h
   refine gM ?_;refine aA (wp_seq (aB ?_));refine aK K M ?_; clear K;iterate 4 (refine aO M ?_)
   intro a K;refine aJ (aA (wp_ret ?_));cases h;exact J0 K rfl (aE K rfl) (aE K rfl) (aE K rfl) ⟨_, rfl, _, _, rfl, M.pick [0] aL⟩
  clear K M h;rintro kk fuel ⟨l3, o2⟩ a w hk3 ⟨A3, c3, K, M⟩ h;unfold yH at h;refine wp_seq (wp_seq (aB ?_));refine aK K M ?_; clear K;refine bA (fun _ K => eH rfl qG K rfl) M ?_;iterate 2 (refine aO M ?_)
  intro a K;refine aJ (aA ?_);refine aP K rfl (fun hb => ?_) (fun hb => ?_)
  ·have h := aM hb h;refine wp_skip (aA (wp_block (wp_seq (aB ?_))));refine aK K M ?_; clear K;refine aO M ?_; intro a K;refine aJ (aA (wp_seq (wp_block ?_)));refine kT (id := 2) (Rel := fun (⟨EC, i11⟩ : Int × Int) a w => Kn a 79 [(1, .string (bs o2)), (2, I p2), (13, .map (some gm)), (14, .slice A3 l3.length c3), (15, I EC), (16, I i11)] ∧ Mem w0.heap.size w0 w [.row 3 1 A3 l3.length c3 ((cI .i64).all l3), .DJ Tryz.prog 9 3 gm m10]) h (fun _ _ => rfl) ⟨K.pick [1,2,13,14,15,16], M.pick [0,1] aL⟩ ?_ ?_
   ·clear K M h;rintro ⟨i12, Pv⟩ a w ⟨K, M⟩ h;try dsimp only at h
    refine gM ?_;refine aA (wp_seq (aB ?_));refine aK K M ?_; clear K;refine aO M ?_; intro a K;refine eB K (eG rfl g7 z3 K (vs := [(0, I Pv)]) (cs := [I Pv]) rfl cU rfl rfl M) ?_;have M0 := M; clear K M; rintro _ a w ⟨TA, rfl, M⟩ K;replace M := M.kA 0 rfl (cI .i64) ([Pv] : List Int) (n := 1) rfl rfl rfl;clear M0;obtain ⟨l5, AW, h⟩ := aF h;refine eB K (kG (C := (cI .i64)) (xs := l3) (ys := ([Pv] : List Int)) rfl g7 rfl z3 rfl rfl K rfl rfl 1 M rfl ((j6 (C := (cI .i64)) 0 rfl rfl) _ M) AW) ?_;clear K M; rintro _ a w ⟨A5, c5, rfl, M⟩ K;refine aK K M ?_; clear K; intro a K;refine aJ (aA (aB ?_));refine aK K M ?_; clear K;refine aO M ?_;obtain ⟨s13, V6, h⟩ := aF h;refine bA (fun _ K => l1 (k := .i64) (k' := .i64) rfl qR K rfl rfl rfl V6) M ?_;refine aO M ?_; intro a K;refine aJ (dP ?_);exact aA ⟨(l5, s13), ⟨A5, c5, K.pick [1,2,13,14], M.pick [1,2] aL⟩, h⟩
   clear K M h;rintro kk fuel ⟨EC, i11⟩ a w hk4 ⟨K, M⟩ h;unfold uL at h;refine wp_seq (wp_seq (aB ?_));refine aK K M ?_; clear K;refine aO M ?_; intro a K;refine aJ (aA ?_);refine aP K rfl (fun hb => ?_) (fun hb => ?_)
   ·have h := aM hb h;refine wp_skip (aA (wp_block (wp_seq (aB ?_))));refine aK K M ?_; clear K;iterate 2 (refine aO M ?_)
    obtain ⟨s12, V7, h⟩ := aF h;refine bA (fun _ K => l1 (k := .i64) (k' := .i64) rfl qR K rfl rfl rfl V7) M ?_;obtain ⟨q7, Qr, h⟩ := aF h;refine bA (fun _ K => LE rfl LG qR DM Z0 K rfl rfl (ZZ 1 rfl) Qr) M ?_;iterate 5 (refine aO M ?_)
    intro a K;refine aJ (aA (wp_block (wp_seq (aB ?_))));refine aK K M ?_; clear K;iterate 2 (refine aO M ?_)
    intro a K;refine aJ (aA ?_);refine aP K rfl (fun hb => ?_) (fun hb => ?_)
    ·have h := aM hb h;refine wp_seq (aB ?_);refine aK K M ?_; clear K;iterate 2 (refine aO M ?_)
     intro a K;refine aJ (aA (wp_ret (dS (dS (aI (dS (aI (dS (aI (dS (aI ?_)))))))))));cases h;exact J0 K rfl (aE K rfl) (aE K rfl) (aE K rfl) ⟨_, rfl, _, _, rfl, (((Mem.aS 3 1 (cI .i64) M)).pick [0] aL)⟩
    have h := aG hb h;refine wp_seq (aB ?_);refine aK K M ?_; clear K;iterate 2 (refine aO M ?_)
    intro a K;refine aJ (aA ?_);refine aP K rfl (fun hb => ?_) (fun hb => ?_)
    ·have h := aM hb h;refine aB ?_;refine aK K M ?_; clear K;refine aO M ?_; intro a K;refine aJ (dP (dP ?_));exact aA ⟨(EC, q7.1), ⟨K.pick [1,2,13,14,15,16], M.pick [0,1] aL⟩, h⟩
    have h := aG hb h;refine wp_seq (aB ?_);refine aK K M ?_; clear K;refine aO M ?_;refine bA (fun _ K => lA rfl qR K rfl) M ?_;iterate 2 (refine aO M ?_)
    intro a K;refine aJ (aA ?_);refine aP K rfl (fun hb => ?_) (fun hb => ?_)
    ·have h := aM hb h;refine wp_seq (aB ?_);refine aK K M ?_; clear K;iterate 2 (refine aO M ?_)
     intro a K;refine aJ (aA (wp_ret (dS (dS (aI (dS (aI (dS (aI (dS (aI ?_)))))))))));cases h;exact J0 K rfl (aE K rfl) (aE K rfl) (aE K rfl) ⟨_, rfl, _, _, rfl, (((Mem.aS 3 1 (cI .i64) M)).pick [0] aL)⟩
    have h := aG hb h;refine aB ?_;refine aK K M ?_; clear K;refine aO M ?_;obtain ⟨x5, hx, h⟩ := g9 h;refine bA (fun _ K => nH hx (bU rfl K rfl)) M ?_; intro a K;refine aJ (dP (dP ?_));exact aA ⟨(x5, i11), ⟨K.pick [1,2,13,14,15,16], M.pick [0,1] aL⟩, h⟩
   have h := aG hb h;refine wp_exit ?_;refine cP ?_;exact cP (hk4 (EC, i11) _ _ ⟨K.pick [1,2,13,14,15,16], M.pick [0,1] aL⟩ h)
  have h := aG hb h;refine wp_exit ?_;refine cP ?_;exact cP (hk3 (l3, o2) _ _ ⟨A3, c3, K.pick [1,2,13,14], M.pick [0,1] aL⟩ h)
 clear K M h;rintro kk fuel ⟨m, i⟩ a w hk1 ⟨K, M⟩ h;unfold uM at h;refine wp_seq (aB ?_);refine aK K M ?_; clear K; intro a K;refine aJ (aA (wp_seq ?_));refine aP K rfl (fun hb => ?_) (fun hb => ?_)
 ·have h := aM hb h;refine wp_skip (aA (wp_seq (wp_block (wp_seq (aB ?_)))));refine aK K M ?_; clear K;obtain ⟨e2, lJ, h⟩ := aF h;refine bA (fun _ K => jT rfl rU K rfl rfl (j6 (C := cS) 1 rfl rfl) lJ) M ?_;refine bA (fun _ K => gW rfl xH K rfl rfl (j6 (C := cS) 1 rfl rfl) lJ rfl) M ?_;iterate 2 (refine aO M ?_)
  intro a K;refine aJ (aA (wp_seq (wp_seq (aB ?_))));refine aK K M ?_; clear K;refine bA (fun _ K => lA rfl qR K rfl) M ?_;refine aO M ?_; intro a K;refine aJ (aA (wp_block ?_));refine kT (id := 2) (Rel := fun (⟨m5, i3⟩ : List (List UInt8 × Int) × Int) a w => Kn a 44 [(3, .map (some gm)), (10, .slice A r2.1.length c), (11, I (r2.1.length : Int)), (12, I i), (4, I i), (5, .string (bs e2)), (18, I (e2.length : Int)), (19, I i3)] ∧ Mem w0.heap.size w0 w [.DJ Tryz.prog 9 3 gm m5, .row 9 1 A r2.1.length c (cS.all r2.1)]) h (fun _ _ => rfl) ⟨K.pick [3,10,11,12,4,5,18,19], M.pick [0,1] aL⟩ ?_ ?_
  ·clear K M h;rintro ⟨m8, i4⟩ a w ⟨K, M⟩ h;try dsimp only at h
   refine gM ?_;refine aA (wp_seq (aB ?_));refine aK K M ?_; clear K;refine bA (fun _ K => AV rfl K rfl rfl) M ?_; intro a K;refine aJ (aA ?_);refine aP K rfl (fun hb => ?_) (fun hb => ?_)
   ·have h := aM hb h;refine aB ?_;refine aK K M ?_; clear K;iterate 2 (refine aO M ?_)
    intro a K;obtain ⟨m9, Zo, h⟩ := aF h;refine mD K (GG rfl LG qR DM K rfl rfl rfl 0 M rfl Zo) ?_;clear K M; rintro _ a w M K;refine aJ (dP (aA (aB ?_)));refine aK K M ?_; clear K;refine aO M ?_; intro a K;refine aJ ?_;exact aA ⟨(m9, IntKind.i64.wrap (i + 1)), ⟨K.pick [3,10,11,12], M.pick [0,1] aL⟩, h⟩
   have h := aG hb h;refine wp_skip (dP (aA (aB ?_)));refine aK K M ?_; clear K;refine aO M ?_; intro a K;refine aJ ?_;exact aA ⟨(m8, IntKind.i64.wrap (i + 1)), ⟨K.pick [3,10,11,12], M.pick [0,1] aL⟩, h⟩
  clear K M h;rintro kk fuel ⟨m5, i3⟩ a w hk2 ⟨K, M⟩ h;unfold uK at h;refine wp_seq (aB ?_);refine aK K M ?_; clear K; intro a K;refine aJ (aA (wp_seq ?_));refine aP K rfl (fun hb => ?_) (fun hb => ?_)
  ·have h := aM hb h;refine wp_skip (aA (wp_seq (wp_block (wp_seq (aB ?_)))));refine aK K M ?_; clear K;refine aO M ?_; intro a K;refine aJ (aA (wp_seq (aB ?_)));refine aK K M ?_; clear K;iterate 2 (refine aO M ?_)
   obtain ⟨s5, Zp, h⟩ := aF h;refine bA (fun _ K => l1 (k := .i64) (k' := .i64) rfl qR K rfl rfl rfl Zp) M ?_;obtain ⟨q3, Qs, h⟩ := aF h;refine bA (fun _ K => LE rfl LG qR DM Z0 K rfl rfl (ZZ 0 rfl) Qs) M ?_;iterate 5 (refine aO M ?_)
   intro a K;refine aJ (aA (wp_seq (aB ?_)));refine aK K M ?_; clear K;refine aO M ?_; intro a K;refine aJ (aA ?_);refine aP K rfl (fun hb => ?_) (fun hb => ?_)
   ·have h := aM hb h;refine aB ?_;refine aK K M ?_; clear K;iterate 2 (refine aO M ?_)
    obtain ⟨s6, Zr, h⟩ := aF h;refine bA (fun _ K => l1 (k := .i64) (k' := .i64) rfl qR K rfl rfl rfl Zr) M ?_; intro a K;obtain ⟨m7, Zs, h⟩ := aF h;refine mD K (GG rfl LG qR DM K rfl rfl rfl 0 M rfl Zs) ?_;clear K M; rintro _ a w M K;refine aJ (dP (aA (aB ?_)));refine aK K M ?_; clear K;refine aO M ?_; intro a K;refine aJ ?_;exact aA ⟨(m7, IntKind.i64.wrap (i3 + 1)), ⟨K.pick [3,10,11,12,4,5,18,19], M.pick [0,1] aL⟩, h⟩
   have h := aG hb h;refine wp_skip (dP (aA (aB ?_)));refine aK K M ?_; clear K;refine aO M ?_; intro a K;refine aJ ?_;exact aA ⟨(m5, IntKind.i64.wrap (i3 + 1)), ⟨K.pick [3,10,11,12,4,5,18,19], M.pick [0,1] aL⟩, h⟩
  have h := aG hb h;refine wp_exit ?_;refine cP ?_;exact cP (hk2 (m5, i3) _ _ ⟨K.pick [3,10,11,12,4,5,18,19], M.pick [0,1] aL⟩ h)
 have h := aG hb h;refine wp_exit ?_;refine cP ?_;exact cP (hk1 (m, i) _ _ ⟨K.pick [3,10,11,12], M.pick [0,1] aL⟩ h)
theorem Dy {N : Nat} {x2 : Int} {w0 : World} {r : Int} (h : rQ N x2 = some r) :
  Calls Tryz.prog 168 #[.int .u64 x2] w0 fun e w' => ∃ v, e = .returned v ∧ v = I r ∧ Mem w0.heap.size w0 w' [] := by
 refine cR Tryz.func168 rfl Tryz.ntmps168 rfl ?_;intro a K;have M := Mem.start w0;have K : Kn a 25 [(0, _)] := K;unfold rQ at h;refine wp_seq (aB ?_);refine aK K M ?_; clear K; intro a K;refine aJ (aA (wp_seq (wp_seq (aB ?_))));refine aK K M ?_; clear K;refine aO M ?_; intro a K;refine aJ (aA ?_);refine aP K rfl (fun hb => ?_) (fun hb => ?_)
 ·have h := aM hb h;refine wp_seq (aB ?_);refine aK K M ?_; clear K;refine bA (fun _ K => rJ rfl K rfl rfl aL) M ?_;obtain ⟨x3, hx, h⟩ := g9 h;refine bA (fun _ K => nH hx (bU rfl K rfl)) M ?_; intro a K;refine aJ (aA (aB ?_));refine aK K M ?_; clear K; intro a K;refine aJ (aA (wp_seq (wp_seq (aB ?_))));refine aK K M ?_; clear K;refine aO M ?_; intro a K;refine aJ (aA ?_);refine aP K rfl (fun hb => ?_) (fun hb => ?_)
  ·have h := aM hb h;refine wp_seq (aB ?_);refine aK K M ?_; clear K;refine bA (fun _ K => rJ rfl K rfl rfl aL) M ?_;obtain ⟨x4, hx, h⟩ := g9 h;refine bA (fun _ K => nH hx (bU rfl K rfl)) M ?_; intro a K;refine aJ (aA (aB ?_));refine aK K M ?_; clear K;refine aO M ?_;obtain ⟨n, hx, h⟩ := g9 h;refine bA (fun _ K => nH hx (bU rfl K rfl)) M ?_; intro a K;refine aJ (aA (wp_seq (wp_seq (aB ?_))));refine aK K M ?_; clear K;refine aO M ?_; intro a K;refine aJ (aA ?_);refine aP K rfl (fun hb => ?_) (fun hb => ?_)
   ·have h := aM hb h;refine wp_seq (aB ?_);refine aK K M ?_; clear K;refine bA (fun _ K => rJ rfl K rfl rfl aL) M ?_;obtain ⟨x5, hx, h⟩ := g9 h;refine bA (fun _ K => nH hx (bU rfl K rfl)) M ?_; intro a K;refine aJ (aA (aB ?_));refine aK K M ?_; clear K;refine aO M ?_;obtain ⟨n2, hx, h⟩ := g9 h;refine bA (fun _ K => nH hx (bU rfl K rfl)) M ?_; intro a K;refine aJ (aA (wp_seq (aB ?_)));refine aK K M ?_; clear K;refine aO M ?_;refine bA (fun _ K => gH rfl rfl En K rfl) M ?_;obtain ⟨b, h_b, h⟩ := aF h;refine bA (fun _ K => tO rfl qR K rfl rfl h_b) M ?_;refine bA (fun _ K => gH rfl rfl DM K rfl) M ?_;refine aO M ?_;obtain ⟨n3, hx, h⟩ := g9 h;refine bA (fun _ K => nH hx (bU rfl K rfl)) M ?_; intro a K;refine aJ (aA (wp_ret ?_));cases h;exact dD K rfl (aE K rfl) ⟨_, rfl, rfl, M.pick [] aL⟩
   have h := aG hb h;refine wp_skip (aA (wp_seq (aB ?_)));refine aK K M ?_; clear K;refine aO M ?_;refine bA (fun _ K => gH rfl rfl En K rfl) M ?_;obtain ⟨b2, OP, h⟩ := aF h;refine bA (fun _ K => tO rfl qR K rfl rfl OP) M ?_;refine bA (fun _ K => gH rfl rfl DM K rfl) M ?_;refine aO M ?_;obtain ⟨n4, hx, h⟩ := g9 h;refine bA (fun _ K => nH hx (bU rfl K rfl)) M ?_; intro a K;refine aJ (aA (wp_ret ?_));cases h;exact dD K rfl (aE K rfl) ⟨_, rfl, rfl, M.pick [] aL⟩
  have h := aG hb h;refine wp_skip (aA (wp_seq (wp_seq (aB ?_))));refine aK K M ?_; clear K;refine aO M ?_; intro a K;refine aJ (aA ?_);refine aP K rfl (fun hb => ?_) (fun hb => ?_)
  ·have h := aM hb h;refine wp_seq (aB ?_);refine aK K M ?_; clear K;refine bA (fun _ K => rJ rfl K rfl rfl aL) M ?_;obtain ⟨x6, hx, h⟩ := g9 h;refine bA (fun _ K => nH hx (bU rfl K rfl)) M ?_; intro a K;refine aJ (aA (aB ?_));refine aK K M ?_; clear K;refine aO M ?_;obtain ⟨n5, hx, h⟩ := g9 h;refine bA (fun _ K => nH hx (bU rfl K rfl)) M ?_; intro a K;refine aJ (aA (wp_seq (aB ?_)));refine aK K M ?_; clear K;refine aO M ?_;refine bA (fun _ K => gH rfl rfl En K rfl) M ?_;obtain ⟨b3, HH, h⟩ := aF h;refine bA (fun _ K => tO rfl qR K rfl rfl HH) M ?_;refine bA (fun _ K => gH rfl rfl DM K rfl) M ?_;refine aO M ?_;obtain ⟨n6, hx, h⟩ := g9 h;refine bA (fun _ K => nH hx (bU rfl K rfl)) M ?_; intro a K;refine aJ (aA (wp_ret ?_));cases h;exact dD K rfl (aE K rfl) ⟨_, rfl, rfl, M.pick [] aL⟩
  have h := aG hb h;refine wp_skip (aA (wp_seq (aB ?_)));refine aK K M ?_; clear K;refine aO M ?_;refine bA (fun _ K => gH rfl rfl En K rfl) M ?_;obtain ⟨b4, OQ, h⟩ := aF h;refine bA (fun _ K => tO rfl qR K rfl rfl OQ) M ?_;refine bA (fun _ K => gH rfl rfl DM K rfl) M ?_;refine aO M ?_;obtain ⟨n7, hx, h⟩ := g9 h;refine bA (fun _ K => nH hx (bU rfl K rfl)) M ?_; intro a K;refine aJ (aA (wp_ret ?_));cases h;exact dD K rfl (aE K rfl) ⟨_, rfl, rfl, M.pick [] aL⟩
 have h := aG hb h;refine wp_skip (aA (wp_seq (wp_seq (aB ?_))));refine aK K M ?_; clear K;refine aO M ?_; intro a K;refine aJ (aA ?_);refine aP K rfl (fun hb => ?_) (fun hb => ?_)
 ·have h := aM hb h;refine wp_seq (aB ?_);refine aK K M ?_; clear K;refine bA (fun _ K => rJ rfl K rfl rfl aL) M ?_;obtain ⟨x7, hx, h⟩ := g9 h;refine bA (fun _ K => nH hx (bU rfl K rfl)) M ?_; intro a K;refine aJ (aA (aB ?_));refine aK K M ?_; clear K;refine aO M ?_;obtain ⟨n8, hx, h⟩ := g9 h;refine bA (fun _ K => nH hx (bU rfl K rfl)) M ?_; intro a K;refine aJ (aA (wp_seq (wp_seq (aB ?_))));refine aK K M ?_; clear K;refine aO M ?_; intro a K;refine aJ (aA ?_);refine aP K rfl (fun hb => ?_) (fun hb => ?_)
  ·have h := aM hb h;refine wp_seq (aB ?_);refine aK K M ?_; clear K;refine bA (fun _ K => rJ rfl K rfl rfl aL) M ?_;obtain ⟨x8, hx, h⟩ := g9 h;refine bA (fun _ K => nH hx (bU rfl K rfl)) M ?_; intro a K;refine aJ (aA (aB ?_));refine aK K M ?_; clear K;refine aO M ?_;obtain ⟨n9, hx, h⟩ := g9 h;refine bA (fun _ K => nH hx (bU rfl K rfl)) M ?_; intro a K;refine aJ (aA (wp_seq (aB ?_)));refine aK K M ?_; clear K;refine aO M ?_;refine bA (fun _ K => gH rfl rfl En K rfl) M ?_;obtain ⟨b5, Zt, h⟩ := aF h;refine bA (fun _ K => tO rfl qR K rfl rfl Zt) M ?_;refine bA (fun _ K => gH rfl rfl DM K rfl) M ?_;refine aO M ?_;obtain ⟨n10, hx, h⟩ := g9 h;refine bA (fun _ K => nH hx (bU rfl K rfl)) M ?_; intro a K;refine aJ (aA (wp_ret ?_));cases h;exact dD K rfl (aE K rfl) ⟨_, rfl, rfl, M.pick [] aL⟩
  have h := aG hb h;refine wp_skip (aA (wp_seq (aB ?_)));refine aK K M ?_; clear K;refine aO M ?_;refine bA (fun _ K => gH rfl rfl En K rfl) M ?_;obtain ⟨b6, Zu, h⟩ := aF h;refine bA (fun _ K => tO rfl qR K rfl rfl Zu) M ?_;refine bA (fun _ K => gH rfl rfl DM K rfl) M ?_;refine aO M ?_;obtain ⟨n11, hx, h⟩ := g9 h;refine bA (fun _ K => nH hx (bU rfl K rfl)) M ?_; intro a K;refine aJ (aA (wp_ret ?_));cases h;exact dD K rfl (aE K rfl) ⟨_, rfl, rfl, M.pick [] aL⟩
 have h := aG hb h;refine wp_skip (aA (wp_seq (wp_seq (aB ?_))));refine aK K M ?_; clear K;refine aO M ?_; intro a K;refine aJ (aA ?_);refine aP K rfl (fun hb => ?_) (fun hb => ?_)
 ·have h := aM hb h;refine wp_seq (aB ?_);refine aK K M ?_; clear K;refine bA (fun _ K => rJ rfl K rfl rfl aL) M ?_;obtain ⟨x9, hx, h⟩ := g9 h;refine bA (fun _ K => nH hx (bU rfl K rfl)) M ?_; intro a K;refine aJ (aA (aB ?_));refine aK K M ?_; clear K;refine aO M ?_;obtain ⟨n12, hx, h⟩ := g9 h;refine bA (fun _ K => nH hx (bU rfl K rfl)) M ?_; intro a K;refine aJ (aA (wp_seq (aB ?_)));refine aK K M ?_; clear K;refine aO M ?_;refine bA (fun _ K => gH rfl rfl En K rfl) M ?_;obtain ⟨b7, TB, h⟩ := aF h;refine bA (fun _ K => tO rfl qR K rfl rfl TB) M ?_;refine bA (fun _ K => gH rfl rfl DM K rfl) M ?_;refine aO M ?_;obtain ⟨n13, hx, h⟩ := g9 h;refine bA (fun _ K => nH hx (bU rfl K rfl)) M ?_; intro a K;refine aJ (aA (wp_ret ?_));cases h;exact dD K rfl (aE K rfl) ⟨_, rfl, rfl, M.pick [] aL⟩
 have h := aG hb h;refine wp_skip (aA (wp_seq (aB ?_)));refine aK K M ?_; clear K;refine aO M ?_;refine bA (fun _ K => gH rfl rfl En K rfl) M ?_;obtain ⟨b8, TC, h⟩ := aF h;refine bA (fun _ K => tO rfl qR K rfl rfl TC) M ?_;refine bA (fun _ K => gH rfl rfl DM K rfl) M ?_;refine aO M ?_;obtain ⟨n14, hx, h⟩ := g9 h;refine bA (fun _ K => nH hx (bU rfl K rfl)) M ?_; intro a K;refine aJ (aA (wp_ret ?_));cases h;exact dD K rfl (aE K rfl) ⟨_, rfl, rfl, M.pick [] aL⟩
theorem Bm {N : Nat} {x2 : Int} {w0 : World} {r : Int} (h : nF N x2 = some r) :
  Calls Tryz.prog 125 #[.int .u64 x2] w0 fun e w' => ∃ v, e = .returned v ∧ v = I r ∧ Mem w0.heap.size w0 w' [] := by
 refine cR Tryz.func125 rfl Tryz.ntmps125 rfl ?_;intro a K;have M := Mem.start w0;have K : Kn a 8 [(0, _)] := K;unfold nF at h;refine wp_seq (aB ?_);refine aK K M ?_; clear K; intro a K;refine aJ (aA (wp_seq ?_));refine mQ K rfl ?_;refine wp_skip (aA (wp_seq (aB ?_)));refine aK K M ?_; clear K; intro a K;obtain ⟨r2, hU, h⟩ := aF h;refine eB K (gF Tk K (Dy hU)) ?_;clear K; rintro _ a w ⟨rfl, Zq⟩ K;replace M := M.call Zq; clear Zq;refine aK K M ?_; clear K; intro a K;refine aJ (aA (wp_ret ?_));cases h;exact dD K rfl (aE K rfl) ⟨_, rfl, rfl, M.pick [] aL⟩
end
section
open Go.RowKit Go.Shelf
theorem C5 (N : Nat) (s substr : List UInt8) (w0 : World) (r : Bool) (h : tK N s substr = some r) :
  Calls Tryz.prog 180 #[.string (bs s), .string (bs substr)] w0 fun e w' => ∃ v, e = .returned v ∧ v = .bool r ∧ Mem w0.heap.size w0 w' [] := by
 unfold tK at h
 split at h
 ·rename_i c
  cases h;refine (Any.strings_Contains_one Qq (bs s) c w0).mono ?_;rintro e w' ⟨rfl, rfl⟩;exact ⟨_, rfl, rfl, Mem.start w'⟩
 ·cases h
end
end Go.Proofs.YtpmnfhifmmfglacGreatDoor
