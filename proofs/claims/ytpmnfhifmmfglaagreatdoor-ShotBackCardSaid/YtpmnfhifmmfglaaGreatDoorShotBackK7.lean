/- Texts of the claim ShotBack, joined and made small by a program. -/
import Derived.Shelf.Strconv.ErrVarAll
import Derived.Shelf.Strconv.Itoa3
import Derived.Shelf.Strings.Builder1
import Derived.Shelf.Strings.Count
import Derived.Shelf.Strings.Search2
import Derived.Shelf.Strings.Search3
import Derived.Shelf.Strings.SlTrimAscii
import Derived.Test.YtpmnfhifmmfglaaGreatDoorChecked
import Derived.Test.YtpmnfhifmmfglaaGreatDoorProg
import Derived.Test.YtpmnfhifmmfglaaGreatDoorShotBackK4
import Derived.Test.YtpmnfhifmmfglaaGreatDoorShotBackK5
import Derived.Test.YtpmnfhifmmfglaaGreatDoorShotBackK6
set_option linter.unusedVariables false
set_option linter.unusedSimpArgs false
set_option linter.unusedSectionVars false
set_option maxRecDepth 100000
set_option maxHeartbeats 8000000
namespace Go.Proofs.YtpmnfhifmmfglaaGreatDoor
section
open Go.RowKit
theorem z1 : gZ Tryz.prog 1 = some [.nilFunc] := by kernel_rfl
theorem z2 : gZ Tryz.prog 2 = some [.int .i64 0] := by kernel_rfl
theorem eJ : Ga Tryz.prog 3 = true := by kernel_rfl
theorem z3 : gZ Tryz.prog 3 = some [.int .i64 0] := by kernel_rfl
theorem ZC : (Tryz.prog.info? 3).bind (·.zero) = some (.int .i64 0) := by kernel_rfl
theorem ET : Tryz.prog.underlying 3 = some (.int .i64) := by kernel_rfl
theorem zV : (Tryz.prog.info? 3).map (·.size) = some 1 := by kernel_rfl
theorem Vs : Ga Tryz.prog 4 = true := by kernel_rfl
theorem z4 : gZ Tryz.prog 4 = some [.bool false] := by kernel_rfl
theorem XB : Ga Tryz.prog 5 = true := by kernel_rfl
theorem z5 : gZ Tryz.prog 5 = some [.int .u8 0] := by kernel_rfl
theorem Is : Tryz.prog.underlying 5 = some (.int .u8) := by kernel_rfl
theorem ZD : (Tryz.prog.info? 5).bind (·.zero) = some (.int .u8 0) := by kernel_rfl
theorem ZE : (Tryz.prog.info? 5).map (·.size) = some 1 := by kernel_rfl
theorem DE : Ga Tryz.prog 9 = true := by kernel_rfl
theorem z9 : gZ Tryz.prog 9 = some [.string (bs ([] : List UInt8))] := by kernel_rfl
theorem pO : Tryz.prog.underlying 9 = some .string := by kernel_rfl
theorem sz9 : (Tryz.prog.info? 9).map (·.size) = some 1 := by kernel_rfl
theorem z20 : gZ Tryz.prog 20 = some [.nilIface] := by kernel_rfl
theorem z21 : gZ Tryz.prog 21 = some [.int .i32 0] := by kernel_rfl
theorem Vt : Tryz.prog.underlying 21 = some (.int .i32) := by kernel_rfl
theorem q9 : Ga Tryz.prog 22 = true := by kernel_rfl
theorem lB : Hj Tryz.prog 22 48 3 24 = true := by kernel_rfl
theorem Iy : ∃ e, Tryz.prog.underlying 22 = some (.slice e) := ⟨_, (k4 lB).1⟩
theorem bE : zL Tryz.prog 24 3 = true := by kernel_rfl
theorem z24 : gZ Tryz.prog 24 = some [.int .i64 0, .int .i64 0, .slice none 0 0] := by kernel_rfl
theorem fC : mM Tryz.prog 24 0 = some 0 := by kernel_rfl
theorem uC : mM Tryz.prog 24 1 = some 1 := by kernel_rfl
theorem iV : mM Tryz.prog 24 2 = some 2 := by kernel_rfl
theorem tK : Ga Tryz.prog 25 = true := by kernel_rfl
theorem z25 : gZ Tryz.prog 25 = some [.int .i64 0] := by kernel_rfl
theorem rA : Ga Tryz.prog 33 = true := by kernel_rfl
theorem f6 : Hj Tryz.prog 33 3 1 8 = true := by kernel_rfl
theorem Iz : ∃ e, Tryz.prog.underlying 33 = some (.slice e) := ⟨_, (k4 f6).1⟩
theorem eR : zL Tryz.prog 35 3 = true := by kernel_rfl
theorem z35 : gZ Tryz.prog 35 = some [.int .i64 0, .int .i64 0, .slice none 0 0] := by kernel_rfl
theorem lC : mM Tryz.prog 35 0 = some 0 := by kernel_rfl
theorem CL : mM Tryz.prog 35 1 = some 1 := by kernel_rfl
theorem kS : mM Tryz.prog 35 2 = some 2 := by kernel_rfl
theorem z37 : gZ Tryz.prog 37 = some [.nilFunc] := by kernel_rfl
theorem IA : Ga Tryz.prog 39 = true := by kernel_rfl
theorem wH : Hj Tryz.prog 39 5 1 1 = true := by kernel_rfl
theorem YB : ∃ e, Tryz.prog.underlying 39 = some (.slice e) := ⟨_, (k4 wH).1⟩
theorem z46 : gZ Tryz.prog 46 = some [.nilFunc] := by kernel_rfl
theorem kT : zL Tryz.prog 48 3 = true := by kernel_rfl
theorem z48 : gZ Tryz.prog 48 = some [.int .i64 0, .int .i64 0, .int .i64 0] := by kernel_rfl
theorem Fl : mM Tryz.prog 48 0 = some 0 := by kernel_rfl
theorem Fm : mM Tryz.prog 48 1 = some 1 := by kernel_rfl
theorem Fo : mM Tryz.prog 48 2 = some 2 := by kernel_rfl
theorem YC : (Tryz.prog).eqGuardType (Tryz.prog).depth 48 = false := by kernel_rfl
theorem Vu (x0 y0 x1 y1 x2 y2 : Int) (w : World) : (Op.equalIn 10000 48 (.agg #[.int .i64 x0, .int .i64 x1, .int .i64 x2]) (.agg #[.int .i64 y0, .int .i64 y1, .int .i64 y2])).run Tryz.prog w = .ok (decide (x0 = y0) && decide (x1 = y1) && decide (x2 = y2)) w := by
 have hp : Tryz.prog.stoodInHeld 48 = false := by kernel_rfl
 have ht : Tryz.prog.underlying 48 = some (.struct (Tryz.prog.fieldsOf 48)) := by kernel_rfl
 rw [run_equalIn_agg (d := 9999) _ _ _ _ ht hp]
 by_cases h0 : x0 = y0 <;> by_cases h1 : x1 = y1 <;> by_cases h2 : x2 = y2 <;> simp [Program.fieldsOf, Tryz.underlying48, go_sem, Op.eqFields, h0, h1, h2]
theorem Fp : (Tryz.prog.info? 48).map (·.size) = some 3 := by kernel_rfl
theorem YD : zL Tryz.prog 49 3 = true := by kernel_rfl
theorem z49 : gZ Tryz.prog 49 = some [.int .i64 0, .int .i64 0, .int .i64 0] := by kernel_rfl
theorem EU : Tryz.prog.underlying 49 = some (.array 3 3) := by kernel_rfl
theorem z51 : gZ Tryz.prog 51 = some [.int .u64 0] := by kernel_rfl
theorem TS : Tryz.prog.underlying 51 = some (.int .u64) := by kernel_rfl
theorem YE : Tryz.prog.underlying 55 = some (.array 3 9) := by kernel_rfl
theorem N0 : Ga Tryz.prog 60 = true := by kernel_rfl
theorem D4 : Hj Tryz.prog 60 9 1 16 = true := by kernel_rfl
theorem YF : ∃ e, Tryz.prog.underlying 60 = some (.slice e) := ⟨_, (k4 D4).1⟩
theorem Vv : zL Tryz.prog 61 4 = true := by kernel_rfl
theorem JM : Tryz.prog.underlying 61 = some (.array 4 3) := by kernel_rfl
theorem Gr : Ga Tryz.prog 62 = true := by kernel_rfl
theorem Dg : Hj Tryz.prog 62 91 2 16 = true := by kernel_rfl
theorem QY : ∃ e, Tryz.prog.underlying 62 = some (.slice e) := ⟨_, (k4 Dg).1⟩
theorem YG : zL Tryz.prog 63 9 = true := by kernel_rfl
theorem Mp : Tryz.prog.underlying 63 = some (.array 9 3) := by kernel_rfl
theorem EV : Ga Tryz.prog 64 = true := by kernel_rfl
theorem sl64 : Hj Tryz.prog 64 92 2 16 = true := by kernel_rfl
theorem TT : ∃ e, Tryz.prog.underlying 64 = some (.slice e) := ⟨_, (k4 sl64).1⟩
theorem IB : zL Tryz.prog 66 21 = true := by kernel_rfl
theorem z66 : gZ Tryz.prog 66 = some [.int .i64 0, .int .i64 0, .int .i64 0, .int .i64 0, .int .i64 0, .int .i64 0, .slice none 0 0, .int .i64 0, .int .i64 0, .int .i64 0, .int .i64 0, .int .i64 0, .int .i64 0, .int .i64 0, .int .i64 0, .int .i64 0, .int .i64 0, .int .i64 0, .int .i64 0, .slice none 0 0, .int .i64 0] := by kernel_rfl
theorem JN : mM Tryz.prog 66 0 = some 0 := by kernel_rfl
theorem JO : mM Tryz.prog 66 1 = some 1 := by kernel_rfl
theorem Hb : mM Tryz.prog 66 2 = some 5 := by kernel_rfl
theorem zW : mM Tryz.prog 66 3 = some 6 := by kernel_rfl
theorem JP : mM Tryz.prog 66 4 = some 7 := by kernel_rfl
theorem JQ : mM Tryz.prog 66 5 = some 10 := by kernel_rfl
theorem CM : mM Tryz.prog 66 6 = some 19 := by kernel_rfl
theorem JR : mM Tryz.prog 66 7 = some 20 := by kernel_rfl
theorem mL : zL Tryz.prog 68 28 = true := by kernel_rfl
theorem z68 : gZ Tryz.prog 68 = some [.int .i64 0, .int .i64 0, .int .i64 0, .int .i64 0, .int .i64 0, .slice none 0 0, .slice none 0 0, .int .i64 0, .int .i64 0, .int .i64 0, .int .i64 0, .int .i64 0, .int .i64 0, .slice none 0 0, .int .i64 0, .int .i64 0, .int .i64 0, .int .i64 0, .int .i64 0, .int .i64 0, .int .i64 0, .int .i64 0, .int .i64 0, .int .i64 0, .int .i64 0, .int .i64 0, .slice none 0 0, .int .i64 0] := by kernel_rfl
theorem Nj : mM Tryz.prog 68 0 = some 0 := by kernel_rfl
theorem Nk : mM Tryz.prog 68 1 = some 1 := by kernel_rfl
theorem JS : mM Tryz.prog 68 2 = some 2 := by kernel_rfl
theorem QZ : mM Tryz.prog 68 3 = some 3 := by kernel_rfl
theorem Q4 : mM Tryz.prog 68 4 = some 4 := by kernel_rfl
theorem Fq : mM Tryz.prog 68 5 = some 5 := by kernel_rfl
theorem JT : mM Tryz.prog 68 6 = some 6 := by kernel_rfl
theorem Fr : mM Tryz.prog 68 7 = some 7 := by kernel_rfl
theorem z70 : gZ Tryz.prog 70 = some [.nilFunc] := by kernel_rfl
theorem YH : zL Tryz.prog 72 4 = true := by kernel_rfl
theorem z72 : gZ Tryz.prog 72 = some [.int .i64 0, .int .i64 0, .int .i64 0, .int .i64 0] := by kernel_rfl
theorem Q5 : mM Tryz.prog 72 0 = some 0 := by kernel_rfl
theorem Q6 : mM Tryz.prog 72 1 = some 1 := by kernel_rfl
theorem Nl : mM Tryz.prog 72 2 = some 2 := by kernel_rfl
theorem Q7 : mM Tryz.prog 72 3 = some 3 := by kernel_rfl
theorem YI : (Tryz.prog).eqGuardType (Tryz.prog).depth 72 = false := by kernel_rfl
theorem Vw (x0 y0 x1 y1 x2 y2 x3 y3 : Int) (w : World) : (Op.equalIn 10000 72 (.agg #[.int .i64 x0, .int .i64 x1, .int .i64 x2, .int .i64 x3]) (.agg #[.int .i64 y0, .int .i64 y1, .int .i64 y2, .int .i64 y3])).run Tryz.prog w = .ok (decide (x0 = y0) && decide (x1 = y1) && decide (x2 = y2) && decide (x3 = y3)) w := by
 have hp : Tryz.prog.stoodInHeld 72 = false := by kernel_rfl
 have ht : Tryz.prog.underlying 72 = some (.struct (Tryz.prog.fieldsOf 72)) := by kernel_rfl
 rw [run_equalIn_agg (d := 9999) _ _ _ _ ht hp]
 by_cases h0 : x0 = y0 <;> by_cases h1 : x1 = y1 <;> by_cases h2 : x2 = y2 <;> by_cases h3 : x3 = y3 <;> simp [Program.fieldsOf, Tryz.underlying72, go_sem, Op.eqFields, h0, h1, h2, h3]
theorem Q8 : mM Tryz.prog 74 0 = some 0 := by kernel_rfl
theorem Q9 : mM Tryz.prog 74 1 = some 1 := by kernel_rfl
theorem Ra : mM Tryz.prog 74 2 = some 5 := by kernel_rfl
theorem Rb : mM Tryz.prog 74 3 = some 6 := by kernel_rfl
theorem z75 : gZ Tryz.prog 75 = some [.nilFunc] := by kernel_rfl
theorem z80 : gZ Tryz.prog 80 = some [.pointer none] := by kernel_rfl
theorem z85 : gZ Tryz.prog 85 = some [.pointer none] := by kernel_rfl
theorem Hc : mM Tryz.prog 87 0 = some 0 := by kernel_rfl
theorem JU : zL Tryz.prog 91 2 = true := by kernel_rfl
theorem z91 : gZ Tryz.prog 91 = some [.int .i64 0, .int .i64 0] := by kernel_rfl
theorem Rc : mM Tryz.prog 91 0 = some 0 := by kernel_rfl
theorem Re : mM Tryz.prog 91 1 = some 1 := by kernel_rfl
theorem JV : zL Tryz.prog 92 2 = true := by kernel_rfl
theorem N1 : gZ Tryz.prog 92 = some [.int .i64 0, .int .i64 0] := by kernel_rfl
theorem xS : mM Tryz.prog 92 0 = some 0 := by kernel_rfl
theorem zX : mM Tryz.prog 92 1 = some 1 := by kernel_rfl
theorem K9 : Hj Tryz.prog 115 117 2 16 = true := by kernel_rfl
theorem Vx : ∃ e, Tryz.prog.underlying 115 = some (.slice e) := ⟨_, (k4 K9).1⟩
theorem z116 : gZ Tryz.prog 116 = some [.nilFunc] := by kernel_rfl
theorem O6 : zL Tryz.prog 117 2 = true := by kernel_rfl
theorem z117 : gZ Tryz.prog 117 = some [.int .i64 0, .int .i64 0] := by kernel_rfl
theorem La : Tryz.prog.underlying 117 = some (.array 2 3) := by kernel_rfl
theorem z119 : gZ Tryz.prog 119 = some [.nilFunc] := by kernel_rfl
theorem zI : Ga Tryz.prog 121 = true := by kernel_rfl
theorem YJ : gZ Tryz.prog 121 = some [.pointer none] := by kernel_rfl
theorem O7 : mM Tryz.prog 123 0 = some 0 := by kernel_rfl
theorem z124 : gZ Tryz.prog 124 = some [] := by kernel_rfl
theorem YK : gZ Tryz.prog 126 = some [.int .i64 0, .int .i64 0, .int .i64 0, .int .i64 0, .int .i64 0] := by kernel_rfl
theorem Jg : Tryz.prog.underlying 126 = some (.array 5 3) := by kernel_rfl
theorem z127 : gZ Tryz.prog 127 = some [.nilFunc] := by kernel_rfl
theorem CV : Ga Tryz.prog 129 = true := by kernel_rfl
theorem YL : gZ Tryz.prog 129 = some [.pointer none] := by kernel_rfl
theorem O8 : zL Tryz.prog 135 3 = true := by kernel_rfl
theorem YM : gZ Tryz.prog 135 = some [.bool false, .bool false, .bool false] := by kernel_rfl
theorem O9 : mM Tryz.prog 135 0 = some 0 := by kernel_rfl
theorem Pa : mM Tryz.prog 135 1 = some 1 := by kernel_rfl
theorem Pb : mM Tryz.prog 135 2 = some 2 := by kernel_rfl
theorem Pc : zL Tryz.prog 136 27 = true := by kernel_rfl
theorem YN : gZ Tryz.prog 136 = some [.bool false, .bool false, .bool false, .bool false, .bool false, .bool false, .bool false, .bool false, .bool false, .bool false, .bool false, .bool false, .bool false, .bool false, .bool false, .bool false, .bool false, .bool false, .bool false, .bool false, .bool false, .bool false, .bool false, .bool false, .bool false, .bool false, .bool false] := by kernel_rfl
theorem Vy : Tryz.prog.underlying 136 = some (.array 9 135) := by kernel_rfl
theorem z138 : gZ Tryz.prog 138 = some [.nilFunc] := by kernel_rfl
theorem z139 : gZ Tryz.prog 139 = some [.nilFunc] := by kernel_rfl
theorem Lb : Ga Tryz.prog 140 = true := by kernel_rfl
theorem YO : gZ Tryz.prog 140 = some [.nilFunc] := by kernel_rfl
theorem z143 : gZ Tryz.prog 143 = some [.nilFunc] := by kernel_rfl
theorem z146 : gZ Tryz.prog 146 = some [.nilFunc] := by kernel_rfl
theorem z164 : gZ Tryz.prog 164 = some [.int .u16 0] := by kernel_rfl
theorem Lc : Tryz.prog.underlying 164 = some (.int .u16) := by kernel_rfl
theorem z167 : gZ Tryz.prog 167 = some [.nilFunc] := by kernel_rfl
theorem z168 : gZ Tryz.prog 168 = some [.nilFunc] := by kernel_rfl
theorem z171 : gZ Tryz.prog 171 = some [.nilFunc] := by kernel_rfl
theorem z173 : gZ Tryz.prog 173 = some [.nilFunc] := by kernel_rfl
theorem z175 : gZ Tryz.prog 175 = some [.nilFunc] := by kernel_rfl
theorem Vz : Tryz.prog.underlying 191 = some (.array 8 3) := by kernel_rfl
theorem Pd : mM Tryz.prog 202 0 = some 0 := by kernel_rfl
theorem Pe : mM Tryz.prog 203 0 = some 0 := by kernel_rfl
theorem Pf : mM Tryz.prog 204 0 = some 0 := by kernel_rfl
theorem Pg : mM Tryz.prog 205 0 = some 0 := by kernel_rfl
theorem Ph : mM Tryz.prog 206 0 = some 0 := by kernel_rfl
theorem Pi : mM Tryz.prog 207 0 = some 0 := by kernel_rfl
theorem Pj : mM Tryz.prog 208 0 = some 0 := by kernel_rfl
theorem Fs : Hj Tryz.prog 209 211 1 16 = true := by kernel_rfl
theorem RQ : ∃ e, Tryz.prog.underlying 209 = some (.slice e) := ⟨_, (k4 Fs).1⟩
theorem z210 : gZ Tryz.prog 210 = some [.nilIface] := by kernel_rfl
theorem VA : Ga Tryz.prog 211 = true := by kernel_rfl
theorem YP : gZ Tryz.prog 211 = some [.nilIface] := by kernel_rfl
theorem z213 : gZ Tryz.prog 213 = some [.nilFunc] := by kernel_rfl
theorem Nm : Tryz.prog.underlying 238 = some (.map 9 3) := by kernel_rfl
theorem Ld : Ga Tryz.prog 271 = true := by kernel_rfl
theorem YQ : gZ Tryz.prog 271 = some [.nilFunc] := by kernel_rfl
theorem HM : dY Tryz.prog 4 = true := by kernel_rfl
theorem Rf : dY Tryz.prog 5 = true := by kernel_rfl
theorem VB : dY Tryz.prog 6 = true := by kernel_rfl
theorem Rg : dY Tryz.prog 7 = true := by kernel_rfl
theorem N2 : dY Tryz.prog 8 = true := by kernel_rfl
theorem JW : dY Tryz.prog 9 = true := by kernel_rfl
theorem HT : dY Tryz.prog 10 = true := by kernel_rfl
theorem Nn : dY Tryz.prog 11 = true := by kernel_rfl
theorem Np : dY Tryz.prog 12 = true := by kernel_rfl
theorem VC : dY Tryz.prog 13 = true := by kernel_rfl
theorem VD : dY Tryz.prog 14 = true := by kernel_rfl
theorem Pk : dY Tryz.prog 15 = true := by kernel_rfl
theorem VE : dY Tryz.prog 16 = true := by kernel_rfl
theorem VF : dY Tryz.prog 17 = true := by kernel_rfl
theorem VG : dY Tryz.prog 18 = true := by kernel_rfl
theorem VH : dY Tryz.prog 19 = true := by kernel_rfl
theorem Pm : dY Tryz.prog 20 = true := by kernel_rfl
theorem Em : dY Tryz.prog 21 = true := by kernel_rfl
theorem RR : dY Tryz.prog 22 = true := by kernel_rfl
theorem VJ : dY Tryz.prog 24 = true := by kernel_rfl
theorem VK : dY Tryz.prog 25 = true := by kernel_rfl
theorem RT : dY Tryz.prog 26 = true := by kernel_rfl
theorem RU : dY Tryz.prog 27 = true := by kernel_rfl
theorem RW : dY Tryz.prog 28 = true := by kernel_rfl
theorem Cf : dY Tryz.prog 29 = true := by kernel_rfl
theorem VL : dY Tryz.prog 30 = true := by kernel_rfl
theorem VM : dY Tryz.prog 31 = true := by kernel_rfl
theorem VN : dY Tryz.prog 32 = true := by kernel_rfl
theorem VO : dY Tryz.prog 33 = true := by kernel_rfl
theorem VP : dY Tryz.prog 34 = true := by kernel_rfl
theorem RX : dY Tryz.prog 35 = true := by kernel_rfl
theorem VQ : dY Tryz.prog 36 = true := by kernel_rfl
theorem VR : dY Tryz.prog 37 = true := by kernel_rfl
theorem Po : dY Tryz.prog 38 = true := by kernel_rfl
theorem RY : dY Tryz.prog 39 = true := by kernel_rfl
theorem VS : dY Tryz.prog 42 = true := by kernel_rfl
theorem VT : dY Tryz.prog 43 = true := by kernel_rfl
theorem RZ : dY Tryz.prog 46 = true := by kernel_rfl
theorem R0 : dY Tryz.prog 47 = true := by kernel_rfl
theorem Le : dY Tryz.prog 48 = true := by kernel_rfl
theorem R1 : dY Tryz.prog 49 = true := by kernel_rfl
theorem VU : dY Tryz.prog 50 = true := by kernel_rfl
theorem VV : dY Tryz.prog 51 = true := by kernel_rfl
theorem VW : dY Tryz.prog 52 = true := by kernel_rfl
theorem R2 : dY Tryz.prog 53 = true := by kernel_rfl
theorem VX : dY Tryz.prog 54 = true := by kernel_rfl
theorem VY : dY Tryz.prog 55 = true := by kernel_rfl
theorem VZ : dY Tryz.prog 56 = true := by kernel_rfl
theorem oP : dY Tryz.prog 57 = true := by kernel_rfl
theorem HU : dY Tryz.prog 58 = true := by kernel_rfl
theorem gB : dY Tryz.prog 59 = true := by kernel_rfl
theorem Nq : dY Tryz.prog 60 = true := by kernel_rfl
theorem Nr : dY Tryz.prog 61 = true := by kernel_rfl
theorem V0 : dY Tryz.prog 62 = true := by kernel_rfl
theorem V1 : dY Tryz.prog 63 = true := by kernel_rfl
theorem V2 : dY Tryz.prog 64 = true := by kernel_rfl
theorem V3 : dY Tryz.prog 65 = true := by kernel_rfl
theorem V4 : dY Tryz.prog 66 = true := by kernel_rfl
theorem Ns : dY Tryz.prog 67 = true := by kernel_rfl
theorem R3 : dY Tryz.prog 68 = true := by kernel_rfl
theorem V5 : dY Tryz.prog 69 = true := by kernel_rfl
theorem V6 : dY Tryz.prog 70 = true := by kernel_rfl
theorem Bq : dY Tryz.prog 71 = true := by kernel_rfl
theorem R4 : dY Tryz.prog 72 = true := by kernel_rfl
theorem R5 : dY Tryz.prog 73 = true := by kernel_rfl
theorem R6 : dY Tryz.prog 74 = true := by kernel_rfl
theorem V7 : dY Tryz.prog 79 = true := by kernel_rfl
theorem Pp : dY Tryz.prog 85 = true := by kernel_rfl
theorem R7 : dY Tryz.prog 86 = true := by kernel_rfl
theorem V8 : dY Tryz.prog 87 = true := by kernel_rfl
theorem R8 : dY Tryz.prog 88 = true := by kernel_rfl
theorem R9 : dY Tryz.prog 89 = true := by kernel_rfl
theorem Sa : dY Tryz.prog 91 = true := by kernel_rfl
theorem V9 : dY Tryz.prog 92 = true := by kernel_rfl
theorem Sb : dY Tryz.prog 93 = true := by kernel_rfl
theorem Lf : dY Tryz.prog 94 = true := by kernel_rfl
theorem Sc : dY Tryz.prog 95 = true := by kernel_rfl
theorem Lg : dY Tryz.prog 96 = true := by kernel_rfl
theorem Sd : dY Tryz.prog 97 = true := by kernel_rfl
theorem Wa : dY Tryz.prog 98 = true := by kernel_rfl
theorem Wb : dY Tryz.prog 99 = true := by kernel_rfl
theorem zA : dY Tryz.prog 100 = true := by kernel_rfl
theorem Pq : dY Tryz.prog 101 = true := by kernel_rfl
theorem TU : dY Tryz.prog 102 = true := by kernel_rfl
theorem Mq : dY Tryz.prog 103 = true := by kernel_rfl
theorem Pr : dY Tryz.prog 104 = true := by kernel_rfl
theorem Mr : dY Tryz.prog 105 = true := by kernel_rfl
theorem TV : dY Tryz.prog 107 = true := by kernel_rfl
theorem Ps : dY Tryz.prog 118 = true := by kernel_rfl
theorem TW : dY Tryz.prog 119 = true := by kernel_rfl
theorem TX : dY Tryz.prog 120 = true := by kernel_rfl
theorem TY : dY Tryz.prog 121 = true := by kernel_rfl
theorem Pu : dY Tryz.prog 123 = true := by kernel_rfl
theorem Pv : dY Tryz.prog 124 = true := by kernel_rfl
theorem Pw : dY Tryz.prog 125 = true := by kernel_rfl
theorem Py : dY Tryz.prog 126 = true := by kernel_rfl
theorem TZ : dY Tryz.prog 127 = true := by kernel_rfl
theorem T0 : dY Tryz.prog 128 = true := by kernel_rfl
theorem T1 : dY Tryz.prog 129 = true := by kernel_rfl
theorem T2 : dY Tryz.prog 130 = true := by kernel_rfl
theorem T3 : dY Tryz.prog 131 = true := by kernel_rfl
theorem T4 : dY Tryz.prog 132 = true := by kernel_rfl
theorem Pz : dY Tryz.prog 133 = true := by kernel_rfl
theorem JX : dY Tryz.prog 134 = true := by kernel_rfl
theorem T5 : dY Tryz.prog 141 = true := by kernel_rfl
theorem PA : dY Tryz.prog 142 = true := by kernel_rfl
theorem T6 : dY Tryz.prog 143 = true := by kernel_rfl
theorem PB : dY Tryz.prog 144 = true := by kernel_rfl
theorem T7 : dY Tryz.prog 145 = true := by kernel_rfl
theorem T8 : dY Tryz.prog 147 = true := by kernel_rfl
theorem T9 : dY Tryz.prog 148 = true := by kernel_rfl
theorem Ua : dY Tryz.prog 149 = true := by kernel_rfl
theorem Ub : dY Tryz.prog 150 = true := by kernel_rfl
theorem Uc : dY Tryz.prog 161 = true := by kernel_rfl
theorem Ud : dY Tryz.prog 191 = true := by kernel_rfl
theorem Ue : dY Tryz.prog 192 = true := by kernel_rfl
theorem PC : dY Tryz.prog 193 = true := by kernel_rfl
theorem Uf : dY Tryz.prog 194 = true := by kernel_rfl
theorem Ug : dY Tryz.prog 195 = true := by kernel_rfl
theorem Uh : dY Tryz.prog 196 = true := by kernel_rfl
theorem PD : dY Tryz.prog 197 = true := by kernel_rfl
theorem Ui : dY Tryz.prog 198 = true := by kernel_rfl
theorem Uj : dY Tryz.prog 199 = true := by kernel_rfl
theorem Uk : dY Tryz.prog 200 = true := by kernel_rfl
theorem Ul : dY Tryz.prog 201 = true := by kernel_rfl
theorem Um : dY Tryz.prog 202 = true := by kernel_rfl
theorem Un : dY Tryz.prog 203 = true := by kernel_rfl
theorem Uo : dY Tryz.prog 204 = true := by kernel_rfl
theorem Ms : dY Tryz.prog 205 = true := by kernel_rfl
theorem PE : dY Tryz.prog 206 = true := by kernel_rfl
theorem Mt : dY Tryz.prog 207 = true := by kernel_rfl
theorem PG : dY Tryz.prog 208 = true := by kernel_rfl
theorem Up : dY Tryz.prog 209 = true := by kernel_rfl
theorem Uq : dY Tryz.prog 210 = true := by kernel_rfl
theorem PH : dY Tryz.prog 211 = true := by kernel_rfl
theorem Ur : dY Tryz.prog 212 = true := by kernel_rfl
theorem Us : dY Tryz.prog 213 = true := by kernel_rfl
theorem Mu : dY Tryz.prog 214 = true := by kernel_rfl
theorem PI : dY Tryz.prog 215 = true := by kernel_rfl
theorem cc9 : Program.concrete Tryz.prog 9 = true := by kernel_rfl
theorem A1 : Program.concrete Tryz.prog 125 = true := by kernel_rfl
theorem Wc : Program.concrete Tryz.prog 202 = true := by kernel_rfl
theorem Wd : Program.concrete Tryz.prog 203 = true := by kernel_rfl
theorem We : Program.concrete Tryz.prog 204 = true := by kernel_rfl
theorem Wf : Program.concrete Tryz.prog 205 = true := by kernel_rfl
theorem Wg : Program.concrete Tryz.prog 206 = true := by kernel_rfl
theorem Wh : Program.concrete Tryz.prog 207 = true := by kernel_rfl
theorem Wi : Program.concrete Tryz.prog 208 = true := by kernel_rfl
theorem Wj : ∀ v w, (method (Tryz.prog.types.size + Made.depth) 202 v "darkslide/line.work").run Tryz.prog w = .ok (191, v) w := by
 intro v w
 kernel_rfl
theorem Wk : ∀ v w, (method (Tryz.prog.types.size + Made.depth) 203 v "darkslide/line.work").run Tryz.prog w = .ok (194, v) w := by
 intro v w
 kernel_rfl
theorem Wl : ∀ v w, (method (Tryz.prog.types.size + Made.depth) 204 v "darkslide/line.work").run Tryz.prog w = .ok (195, v) w := by
 intro v w
 kernel_rfl
theorem Wm : ∀ v w, (method (Tryz.prog.types.size + Made.depth) 205 v "darkslide/line.work").run Tryz.prog w = .ok (198, v) w := by
 intro v w
 kernel_rfl
theorem Wn : ∀ v w, (method (Tryz.prog.types.size + Made.depth) 206 v "darkslide/line.work").run Tryz.prog w = .ok (203, v) w := by
 intro v w
 kernel_rfl
theorem Wo : ∀ v w, (method (Tryz.prog.types.size + Made.depth) 207 v "darkslide/line.work").run Tryz.prog w = .ok (209, v) w := by
 intro v w
 kernel_rfl
theorem Wp : ∀ v w, (method (Tryz.prog.types.size + Made.depth) 208 v "darkslide/line.work").run Tryz.prog w = .ok (212, v) w := by
 intro v w
 kernel_rfl
theorem eC {P : Program} {D : List Deferred} {a : Act} {w : World} {N : Nat} {l : List (Nat × Value)} {Q : Exit → Act → World → Prop} {x : Operand} {p q : Code} {b : Bool} {β : Type} {s t r : β} (K : Kd D a N l) (hc : iP l x = some (.bool b)) (h : cond b s t = r) (ht : b = true → s = r → p.wp P Q a w) (hf : b = false → t = r → q.wp P Q a w) : (Code.cond x p q).wp P Q a w := To K hc (fun hb => ht hb (cP hb h)) (fun hb => hf hb (a7 hb h))
class zJ (t f : Nat) (off : outParam Nat) : Prop where
 out : mM Tryz.prog t f = some off
class Lh (t : Nat) : Prop where
 out : Ga Tryz.prog t = true
class Mv (t : Nat) (n : outParam Nat) : Prop where
 out : zL Tryz.prog t n = true
class Rh (t : Nat) : Prop where
 out : ∃ e, Tryz.prog.underlying t = some (.slice e)
section
variable {base : Nat} {W w : World} {L : List kU} {D : List Deferred} {a : Act} {N : Nat} {l : List (Nat × Value)} {ops : Array Oper} {Q : Exit → Act → World → Prop} {rest : List Oper} {o : Oper} {x : Operand} {t t' : TypeId} {g off n : Nat} {cs ds : List Value} {v : Value}
theorem lcQ (ho : o.op = .load t x := by exact rfl) (ht : Ga Tryz.prog t = true := by exact Lh.out) (hx : iP l x = some (.pointer (some ⟨g, off, none⟩)) := by exact rfl) (hb : ∀ w, Mem base W w L → hZ w g t' cs.toArray := by first | exact d8 0 rfl | exact d8 1 rfl | exact d8 2 rfl | exact d8 3 rfl | exact d8 4 rfl | exact d8 5 rfl | exact d8 6 rfl | exact d8 7 rfl | exact d8 8 rfl | exact d8 9 rfl) (hv : cs[off]? = some v := by exact rfl) : ∀ a, Kd D a N l → Rd Tryz.prog (fun w => Mem base W w L) a o v := fun a K => aL ho ht K hx hb hv
theorem laQ (ho : o.op = .load t x := by exact rfl) (ht : zL Tryz.prog t n = true := by exact Mv.out) (hx : iP l x = some (.pointer (some ⟨g, off, none⟩)) := by exact rfl) (hb : ∀ w, Mem base W w L → hZ w g t' cs.toArray := by first | exact d8 0 rfl | exact d8 1 rfl | exact d8 2 rfl | exact d8 3 rfl | exact d8 4 rfl | exact d8 5 rfl | exact d8 6 rfl | exact d8 7 rfl | exact d8 8 rfl | exact d8 9 rfl) (hs : (cs.drop off).take n = ds := by exact rfl) (hn : ds.length = n := by exact rfl) : ∀ a, Kd D a N l → Rd Tryz.prog (fun w => Mem base W w L) a o (.agg ds.toArray) := fun a K => iW ho ht K hx hb hs hn
def rN (base : Nat) (W : World) (L : List kU) (D : List Deferred) (N : Nat) (ops : Array Oper) (l : List (Nat × Value)) (o : Oper) (d : Nat) (v : Value) : Prop := o.dst = some d ∧ Nat.blt d N = true ∧ Stp Tryz.prog ops (fun w => Mem base W w L) D N l o v
theorem rO {d : Nat} (hd : o.dst = some d := by exact rfl) (hN : Nat.blt d N = true := by exact rfl) (h : Stp Tryz.prog ops (fun w => Mem base W w L) D N l o v := by
 first
 | exact .no (fun a K => K.no rfl rfl rfl rfl) rfl
 | exact .no (fun a K => K.U5 rfl rfl rfl) rfl
 | exact .yes (by first | exact fun a K => aC rfl | exact fun a K => K.yes rfl rfl rfl) (by
   first
   | exact fun a K => dZ rfl K rfl
   | exact fun a K => aI rfl zJ.out K rfl
   | exact lcQ
   | exact fun a K => bC rfl K rfl
   | exact fun a K => nH rfl K rfl
   | exact fun a K => rS rfl Rh.out K rfl
   | exact fun a K => lD rfl K rfl rfl
   | exact fun a K => jX rfl K rfl rfl
   | exact fun a K => Cu rfl K rfl rfl
   | exact fun a K => Dm rfl K rfl rfl
   | exact fun a K => jL rfl K rfl rfl
   | exact fun a K => Hm rfl K rfl rfl
   | exact fun a K => Hn rfl K rfl rfl
   | exact fun a K => Gg rfl K rfl rfl
   | exact fun a K => Hk rfl K rfl rfl
   | exact fun a K => Hl rfl K rfl rfl
   | exact fun a K => rd_not rfl K rfl
   | exact fun a K => jH rfl K rfl rfl
   | exact fun a K => rR rfl K rfl rfl
   | exact fun a K => Hq rfl K rfl rfl
   | exact fun a K => Hp rfl K rfl rfl
   | exact fun a K => Ho rfl K rfl rfl
   | exact laQ)) : rN base W L D N ops l o d v := ⟨hd, hN, h⟩
variable {o0 o1 o2 o3 o4 o5 o6 o7 : Oper} {d0 d1 d2 d3 d4 d5 d6 d7 : Nat} {v0 v1 v2 v3 v4 v5 v6 v7 : Value}
theorem gR (M : Mem base W w L) (k : ∀ a, Kd D a N ((d0, v0) :: l) → wpList Tryz.prog ops Q rest a w) (h0 : rN base W L D N ops l o0 d0 v0 := by exact rO) : ∀ a, Kd D a N l → wpList Tryz.prog ops Q (o0 :: rest) a w := Qj M k h0.1 h0.2.1 h0.2.2
theorem aS (K : Kd D a N l) (M : Mem base W w L) (k : ∀ a, Kd D a N ((d0, v0) :: l) → wpList Tryz.prog ops Q rest a w) (h0 : rN base W L D N ops l o0 d0 v0 := by exact rO) : wpList Tryz.prog ops Q (o0 :: rest) a w := Oi K M k h0.1 h0.2.1 h0.2.2
theorem qL (M : Mem base W w L) (k : ∀ a, Kd D a N ((d1, v1) :: (d0, v0) :: l) → wpList Tryz.prog ops Q rest a w) (h0 : rN base W L D N ops l o0 d0 v0 := by exact rO) (h1 : rN base W L D N ops ((d0, v0) :: l) o1 d1 v1 := by exact rO) : ∀ a, Kd D a N l → wpList Tryz.prog ops Q (o0 :: o1 :: rest) a w := gR M (gR M k h1) h0
theorem bD (K : Kd D a N l) (M : Mem base W w L) (k : ∀ a, Kd D a N ((d1, v1) :: (d0, v0) :: l) → wpList Tryz.prog ops Q rest a w) (h0 : rN base W L D N ops l o0 d0 v0 := by exact rO) (h1 : rN base W L D N ops ((d0, v0) :: l) o1 d1 v1 := by exact rO) : wpList Tryz.prog ops Q (o0 :: o1 :: rest) a w := aS K M (gR M k h1) h0
theorem Gs (M : Mem base W w L) (k : ∀ a, Kd D a N ((d2, v2) :: (d1, v1) :: (d0, v0) :: l) → wpList Tryz.prog ops Q rest a w) (h0 : rN base W L D N ops l o0 d0 v0 := by exact rO) (h1 : rN base W L D N ops ((d0, v0) :: l) o1 d1 v1 := by exact rO) (h2 : rN base W L D N ops ((d1, v1) :: (d0, v0) :: l) o2 d2 v2 := by exact rO) : ∀ a, Kd D a N l → wpList Tryz.prog ops Q (o0 :: o1 :: o2 :: rest) a w := gR M (qL M k h1 h2) h0
theorem eX (K : Kd D a N l) (M : Mem base W w L) (k : ∀ a, Kd D a N ((d2, v2) :: (d1, v1) :: (d0, v0) :: l) → wpList Tryz.prog ops Q rest a w) (h0 : rN base W L D N ops l o0 d0 v0 := by exact rO) (h1 : rN base W L D N ops ((d0, v0) :: l) o1 d1 v1 := by exact rO) (h2 : rN base W L D N ops ((d1, v1) :: (d0, v0) :: l) o2 d2 v2 := by exact rO) : wpList Tryz.prog ops Q (o0 :: o1 :: o2 :: rest) a w := aS K M (qL M k h1 h2) h0
theorem JY (M : Mem base W w L) (k : ∀ a, Kd D a N ((d3, v3) :: (d2, v2) :: (d1, v1) :: (d0, v0) :: l) → wpList Tryz.prog ops Q rest a w) (h0 : rN base W L D N ops l o0 d0 v0 := by exact rO) (h1 : rN base W L D N ops ((d0, v0) :: l) o1 d1 v1 := by exact rO) (h2 : rN base W L D N ops ((d1, v1) :: (d0, v0) :: l) o2 d2 v2 := by exact rO) (h3 : rN base W L D N ops ((d2, v2) :: (d1, v1) :: (d0, v0) :: l) o3 d3 v3 := by exact rO) : ∀ a, Kd D a N l → wpList Tryz.prog ops Q (o0 :: o1 :: o2 :: o3 :: rest) a w := gR M (Gs M k h1 h2 h3) h0
theorem iJ (K : Kd D a N l) (M : Mem base W w L) (k : ∀ a, Kd D a N ((d3, v3) :: (d2, v2) :: (d1, v1) :: (d0, v0) :: l) → wpList Tryz.prog ops Q rest a w) (h0 : rN base W L D N ops l o0 d0 v0 := by exact rO) (h1 : rN base W L D N ops ((d0, v0) :: l) o1 d1 v1 := by exact rO) (h2 : rN base W L D N ops ((d1, v1) :: (d0, v0) :: l) o2 d2 v2 := by exact rO) (h3 : rN base W L D N ops ((d2, v2) :: (d1, v1) :: (d0, v0) :: l) o3 d3 v3 := by exact rO) : wpList Tryz.prog ops Q (o0 :: o1 :: o2 :: o3 :: rest) a w := aS K M (Gs M k h1 h2 h3) h0
theorem Li (M : Mem base W w L) (k : ∀ a, Kd D a N ((d4, v4) :: (d3, v3) :: (d2, v2) :: (d1, v1) :: (d0, v0) :: l) → wpList Tryz.prog ops Q rest a w) (h0 : rN base W L D N ops l o0 d0 v0 := by exact rO) (h1 : rN base W L D N ops ((d0, v0) :: l) o1 d1 v1 := by exact rO) (h2 : rN base W L D N ops ((d1, v1) :: (d0, v0) :: l) o2 d2 v2 := by exact rO) (h3 : rN base W L D N ops ((d2, v2) :: (d1, v1) :: (d0, v0) :: l) o3 d3 v3 := by exact rO) (h4 : rN base W L D N ops ((d3, v3) :: (d2, v2) :: (d1, v1) :: (d0, v0) :: l) o4 d4 v4 := by exact rO) : ∀ a, Kd D a N l → wpList Tryz.prog ops Q (o0 :: o1 :: o2 :: o3 :: o4 :: rest) a w := gR M (JY M k h1 h2 h3 h4) h0
theorem qN (K : Kd D a N l) (M : Mem base W w L) (k : ∀ a, Kd D a N ((d4, v4) :: (d3, v3) :: (d2, v2) :: (d1, v1) :: (d0, v0) :: l) → wpList Tryz.prog ops Q rest a w) (h0 : rN base W L D N ops l o0 d0 v0 := by exact rO) (h1 : rN base W L D N ops ((d0, v0) :: l) o1 d1 v1 := by exact rO) (h2 : rN base W L D N ops ((d1, v1) :: (d0, v0) :: l) o2 d2 v2 := by exact rO) (h3 : rN base W L D N ops ((d2, v2) :: (d1, v1) :: (d0, v0) :: l) o3 d3 v3 := by exact rO) (h4 : rN base W L D N ops ((d3, v3) :: (d2, v2) :: (d1, v1) :: (d0, v0) :: l) o4 d4 v4 := by exact rO) : wpList Tryz.prog ops Q (o0 :: o1 :: o2 :: o3 :: o4 :: rest) a w := aS K M (JY M k h1 h2 h3 h4) h0
theorem Wq (M : Mem base W w L) (k : ∀ a, Kd D a N ((d5, v5) :: (d4, v4) :: (d3, v3) :: (d2, v2) :: (d1, v1) :: (d0, v0) :: l) → wpList Tryz.prog ops Q rest a w) (h0 : rN base W L D N ops l o0 d0 v0 := by exact rO) (h1 : rN base W L D N ops ((d0, v0) :: l) o1 d1 v1 := by exact rO) (h2 : rN base W L D N ops ((d1, v1) :: (d0, v0) :: l) o2 d2 v2 := by exact rO) (h3 : rN base W L D N ops ((d2, v2) :: (d1, v1) :: (d0, v0) :: l) o3 d3 v3 := by exact rO) (h4 : rN base W L D N ops ((d3, v3) :: (d2, v2) :: (d1, v1) :: (d0, v0) :: l) o4 d4 v4 := by exact rO) (h5 : rN base W L D N ops ((d4, v4) :: (d3, v3) :: (d2, v2) :: (d1, v1) :: (d0, v0) :: l) o5 d5 v5 := by exact rO) : ∀ a, Kd D a N l → wpList Tryz.prog ops Q (o0 :: o1 :: o2 :: o3 :: o4 :: o5 :: rest) a w := gR M (Li M k h1 h2 h3 h4 h5) h0
theorem L1 (K : Kd D a N l) (M : Mem base W w L) (k : ∀ a, Kd D a N ((d5, v5) :: (d4, v4) :: (d3, v3) :: (d2, v2) :: (d1, v1) :: (d0, v0) :: l) → wpList Tryz.prog ops Q rest a w) (h0 : rN base W L D N ops l o0 d0 v0 := by exact rO) (h1 : rN base W L D N ops ((d0, v0) :: l) o1 d1 v1 := by exact rO) (h2 : rN base W L D N ops ((d1, v1) :: (d0, v0) :: l) o2 d2 v2 := by exact rO) (h3 : rN base W L D N ops ((d2, v2) :: (d1, v1) :: (d0, v0) :: l) o3 d3 v3 := by exact rO) (h4 : rN base W L D N ops ((d3, v3) :: (d2, v2) :: (d1, v1) :: (d0, v0) :: l) o4 d4 v4 := by exact rO) (h5 : rN base W L D N ops ((d4, v4) :: (d3, v3) :: (d2, v2) :: (d1, v1) :: (d0, v0) :: l) o5 d5 v5 := by exact rO) : wpList Tryz.prog ops Q (o0 :: o1 :: o2 :: o3 :: o4 :: o5 :: rest) a w := aS K M (Li M k h1 h2 h3 h4 h5) h0
theorem Ut (M : Mem base W w L) (k : ∀ a, Kd D a N ((d6, v6) :: (d5, v5) :: (d4, v4) :: (d3, v3) :: (d2, v2) :: (d1, v1) :: (d0, v0) :: l) → wpList Tryz.prog ops Q rest a w) (h0 : rN base W L D N ops l o0 d0 v0 := by exact rO) (h1 : rN base W L D N ops ((d0, v0) :: l) o1 d1 v1 := by exact rO) (h2 : rN base W L D N ops ((d1, v1) :: (d0, v0) :: l) o2 d2 v2 := by exact rO) (h3 : rN base W L D N ops ((d2, v2) :: (d1, v1) :: (d0, v0) :: l) o3 d3 v3 := by exact rO) (h4 : rN base W L D N ops ((d3, v3) :: (d2, v2) :: (d1, v1) :: (d0, v0) :: l) o4 d4 v4 := by exact rO) (h5 : rN base W L D N ops ((d4, v4) :: (d3, v3) :: (d2, v2) :: (d1, v1) :: (d0, v0) :: l) o5 d5 v5 := by exact rO) (h6 : rN base W L D N ops ((d5, v5) :: (d4, v4) :: (d3, v3) :: (d2, v2) :: (d1, v1) :: (d0, v0) :: l) o6 d6 v6 := by exact rO) : ∀ a, Kd D a N l → wpList Tryz.prog ops Q (o0 :: o1 :: o2 :: o3 :: o4 :: o5 :: o6 :: rest) a w := gR M (Wq M k h1 h2 h3 h4 h5 h6) h0
theorem IC (K : Kd D a N l) (M : Mem base W w L) (k : ∀ a, Kd D a N ((d6, v6) :: (d5, v5) :: (d4, v4) :: (d3, v3) :: (d2, v2) :: (d1, v1) :: (d0, v0) :: l) → wpList Tryz.prog ops Q rest a w) (h0 : rN base W L D N ops l o0 d0 v0 := by exact rO) (h1 : rN base W L D N ops ((d0, v0) :: l) o1 d1 v1 := by exact rO) (h2 : rN base W L D N ops ((d1, v1) :: (d0, v0) :: l) o2 d2 v2 := by exact rO) (h3 : rN base W L D N ops ((d2, v2) :: (d1, v1) :: (d0, v0) :: l) o3 d3 v3 := by exact rO) (h4 : rN base W L D N ops ((d3, v3) :: (d2, v2) :: (d1, v1) :: (d0, v0) :: l) o4 d4 v4 := by exact rO) (h5 : rN base W L D N ops ((d4, v4) :: (d3, v3) :: (d2, v2) :: (d1, v1) :: (d0, v0) :: l) o5 d5 v5 := by exact rO) (h6 : rN base W L D N ops ((d5, v5) :: (d4, v4) :: (d3, v3) :: (d2, v2) :: (d1, v1) :: (d0, v0) :: l) o6 d6 v6 := by exact rO) : wpList Tryz.prog ops Q (o0 :: o1 :: o2 :: o3 :: o4 :: o5 :: o6 :: rest) a w := aS K M (Wq M k h1 h2 h3 h4 h5 h6) h0
theorem tL (M : Mem base W w L) (k : ∀ a, Kd D a N ((d7, v7) :: (d6, v6) :: (d5, v5) :: (d4, v4) :: (d3, v3) :: (d2, v2) :: (d1, v1) :: (d0, v0) :: l) → wpList Tryz.prog ops Q rest a w) (h0 : rN base W L D N ops l o0 d0 v0 := by exact rO) (h1 : rN base W L D N ops ((d0, v0) :: l) o1 d1 v1 := by exact rO) (h2 : rN base W L D N ops ((d1, v1) :: (d0, v0) :: l) o2 d2 v2 := by exact rO) (h3 : rN base W L D N ops ((d2, v2) :: (d1, v1) :: (d0, v0) :: l) o3 d3 v3 := by exact rO) (h4 : rN base W L D N ops ((d3, v3) :: (d2, v2) :: (d1, v1) :: (d0, v0) :: l) o4 d4 v4 := by exact rO) (h5 : rN base W L D N ops ((d4, v4) :: (d3, v3) :: (d2, v2) :: (d1, v1) :: (d0, v0) :: l) o5 d5 v5 := by exact rO) (h6 : rN base W L D N ops ((d5, v5) :: (d4, v4) :: (d3, v3) :: (d2, v2) :: (d1, v1) :: (d0, v0) :: l) o6 d6 v6 := by exact rO) (h7 : rN base W L D N ops ((d6, v6) :: (d5, v5) :: (d4, v4) :: (d3, v3) :: (d2, v2) :: (d1, v1) :: (d0, v0) :: l) o7 d7 v7 := by exact rO) : ∀ a, Kd D a N l → wpList Tryz.prog ops Q (o0 :: o1 :: o2 :: o3 :: o4 :: o5 :: o6 :: o7 :: rest) a w := gR M (Ut M k h1 h2 h3 h4 h5 h6 h7) h0
theorem pP (K : Kd D a N l) (M : Mem base W w L) (k : ∀ a, Kd D a N ((d7, v7) :: (d6, v6) :: (d5, v5) :: (d4, v4) :: (d3, v3) :: (d2, v2) :: (d1, v1) :: (d0, v0) :: l) → wpList Tryz.prog ops Q rest a w) (h0 : rN base W L D N ops l o0 d0 v0 := by exact rO) (h1 : rN base W L D N ops ((d0, v0) :: l) o1 d1 v1 := by exact rO) (h2 : rN base W L D N ops ((d1, v1) :: (d0, v0) :: l) o2 d2 v2 := by exact rO) (h3 : rN base W L D N ops ((d2, v2) :: (d1, v1) :: (d0, v0) :: l) o3 d3 v3 := by exact rO) (h4 : rN base W L D N ops ((d3, v3) :: (d2, v2) :: (d1, v1) :: (d0, v0) :: l) o4 d4 v4 := by exact rO) (h5 : rN base W L D N ops ((d4, v4) :: (d3, v3) :: (d2, v2) :: (d1, v1) :: (d0, v0) :: l) o5 d5 v5 := by exact rO) (h6 : rN base W L D N ops ((d5, v5) :: (d4, v4) :: (d3, v3) :: (d2, v2) :: (d1, v1) :: (d0, v0) :: l) o6 d6 v6 := by exact rO) (h7 : rN base W L D N ops ((d6, v6) :: (d5, v5) :: (d4, v4) :: (d3, v3) :: (d2, v2) :: (d1, v1) :: (d0, v0) :: l) o7 d7 v7 := by exact rO) : wpList Tryz.prog ops Q (o0 :: o1 :: o2 :: o3 :: o4 :: o5 :: o6 :: o7 :: rest) a w := aS K M (Ut M k h1 h2 h3 h4 h5 h6 h7) h0
end
instance : zJ 24 0 0 := ⟨fC⟩
instance : zJ 24 1 1 := ⟨uC⟩
instance : zJ 24 2 2 := ⟨iV⟩
instance : zJ 35 0 0 := ⟨lC⟩
instance : zJ 35 1 1 := ⟨CL⟩
instance : zJ 35 2 2 := ⟨kS⟩
instance : zJ 48 0 0 := ⟨Fl⟩
instance : zJ 48 1 1 := ⟨Fm⟩
instance : zJ 48 2 2 := ⟨Fo⟩
instance : zJ 66 0 0 := ⟨JN⟩
instance : zJ 66 1 1 := ⟨JO⟩
instance : zJ 66 2 5 := ⟨Hb⟩
instance : zJ 66 3 6 := ⟨zW⟩
instance : zJ 66 4 7 := ⟨JP⟩
instance : zJ 66 5 10 := ⟨JQ⟩
instance : zJ 66 6 19 := ⟨CM⟩
instance : zJ 66 7 20 := ⟨JR⟩
instance : zJ 68 0 0 := ⟨Nj⟩
instance : zJ 68 1 1 := ⟨Nk⟩
instance : zJ 68 2 2 := ⟨JS⟩
instance : zJ 68 3 3 := ⟨QZ⟩
instance : zJ 68 4 4 := ⟨Q4⟩
instance : zJ 68 5 5 := ⟨Fq⟩
instance : zJ 68 6 6 := ⟨JT⟩
instance : zJ 68 7 7 := ⟨Fr⟩
instance : zJ 72 0 0 := ⟨Q5⟩
instance : zJ 72 1 1 := ⟨Q6⟩
instance : zJ 72 2 2 := ⟨Nl⟩
instance : zJ 72 3 3 := ⟨Q7⟩
instance : zJ 74 0 0 := ⟨Q8⟩
instance : zJ 74 1 1 := ⟨Q9⟩
instance : zJ 74 2 5 := ⟨Ra⟩
instance : zJ 74 3 6 := ⟨Rb⟩
instance : zJ 87 0 0 := ⟨Hc⟩
instance : zJ 91 0 0 := ⟨Rc⟩
instance : zJ 91 1 1 := ⟨Re⟩
instance : zJ 92 0 0 := ⟨xS⟩
instance : zJ 92 1 1 := ⟨zX⟩
instance : zJ 123 0 0 := ⟨O7⟩
instance : zJ 135 0 0 := ⟨O9⟩
instance : zJ 135 1 1 := ⟨Pa⟩
instance : zJ 135 2 2 := ⟨Pb⟩
instance : zJ 202 0 0 := ⟨Pd⟩
instance : zJ 203 0 0 := ⟨Pe⟩
instance : zJ 204 0 0 := ⟨Pf⟩
instance : zJ 205 0 0 := ⟨Pg⟩
instance : zJ 206 0 0 := ⟨Ph⟩
instance : zJ 207 0 0 := ⟨Pi⟩
instance : zJ 208 0 0 := ⟨Pj⟩
instance : Rh 22 := ⟨Iy⟩
instance : Rh 33 := ⟨Iz⟩
instance : Rh 39 := ⟨YB⟩
instance : Rh 60 := ⟨YF⟩
instance : Rh 62 := ⟨QY⟩
instance : Rh 64 := ⟨TT⟩
instance : Rh 115 := ⟨Vx⟩
instance : Rh 209 := ⟨RQ⟩
instance : Lh 3 := ⟨eJ⟩
instance : Lh 4 := ⟨Vs⟩
instance : Lh 5 := ⟨XB⟩
instance : Lh 9 := ⟨DE⟩
instance : Lh 22 := ⟨q9⟩
instance : Lh 25 := ⟨tK⟩
instance : Lh 33 := ⟨rA⟩
instance : Lh 39 := ⟨IA⟩
instance : Lh 60 := ⟨N0⟩
instance : Lh 62 := ⟨Gr⟩
instance : Lh 64 := ⟨EV⟩
instance : Lh 121 := ⟨zI⟩
instance : Lh 129 := ⟨CV⟩
instance : Lh 140 := ⟨Lb⟩
instance : Lh 211 := ⟨VA⟩
instance : Lh 271 := ⟨Ld⟩
instance : Mv 24 3 := ⟨bE⟩
instance : Mv 35 3 := ⟨eR⟩
instance : Mv 48 3 := ⟨kT⟩
instance : Mv 49 3 := ⟨YD⟩
instance : Mv 61 4 := ⟨Vv⟩
instance : Mv 63 9 := ⟨YG⟩
instance : Mv 66 21 := ⟨IB⟩
instance : Mv 68 28 := ⟨mL⟩
instance : Mv 72 4 := ⟨YH⟩
instance : Mv 91 2 := ⟨JU⟩
instance : Mv 92 2 := ⟨JV⟩
instance : Mv 117 2 := ⟨O6⟩
instance : Mv 135 3 := ⟨O8⟩
instance : Mv 136 27 := ⟨Pc⟩
theorem aO {p : Prop} (h : p := by kernel_rfl) : p := h
theorem aJ {p : Prop} (h : p := by decide) : p := h
abbrev aG := @wpList_nil
theorem kZ (b : Bool) : b = true ∨ b = false := Bool.eq_false_or_eq_true b
theorem fR {P : Program} {D : List Deferred} {a : Act} {w : World} {N : Nat} {l : List (Nat × Value)} {o : Oper} {x : Operand} {post : Value → World → Prop} {f : FuncId} {vs : List Value} {args : Array Operand} {ts : Array TypeId} (hf : dY P f = true) (K : Kd D a N l) (h : Calls P f vs.toArray w fun e w' => ∃ v, e = .returned v ∧ post v w') (ho : o.op = .call { callee := .value x, args := args, argTypes := ts } := by exact rfl) (hx : iP l x = some (.func (.func f) #[] #[]) := by exact rfl) (hargs : args.toList.map (iP l) = vs.map some := by exact rfl) : Ac P o a w post := dS (cap := []) ho hf K hx hargs (by rw [List.append_nil]; exact h)
theorem Ct {P : Program} {D : List Deferred} {a : Act} {w : World} {N : Nat} {l : List (Nat × Value)} {o : Oper} {x : Operand} {Pn : List PanicEntry → World → Prop} {f : FuncId} {vs : List Value} {args : Array Operand} {ts : Array TypeId} (hf : dY P f = true) (K : Kd D a N l) (h : Calls P f vs.toArray w fun e w' => ∃ ch, e = .panicked ch ∧ Pn ch w') (ho : o.op = .call { callee := .value x, args := args, argTypes := ts } := by exact rfl) (hx : iP l x = some (.func (.func f) #[] #[]) := by exact rfl) (hargs : args.toList.map (iP l) = vs.map some := by exact rfl) : Bo P o a w Pn := QX (cap := []) ho hf K hx hargs (by rw [List.append_nil]; exact h)
theorem Mem.qM {base : Nat} {W w : World} {x0 x1 : kU} {TL : List kU} (M : Mem base W w (x0 :: x1 :: TL)) : Mem base W w (x1 :: x0 :: TL) := Mem.oO (H := [x0, x1]) 2 rfl M [1,0] (by decide) (by decide)
theorem Mem.Cg {base : Nat} {W w : World} {x0 x1 x2 : kU} {TL : List kU} (M : Mem base W w (x0 :: x1 :: x2 :: TL)) : Mem base W w (x1 :: x2 :: x0 :: TL) := Mem.oO (H := [x0, x1, x2]) 3 rfl M [1,2,0] (by decide) (by decide)
theorem Mem.Lj {base : Nat} {W w : World} {x0 x1 x2 : kU} {TL : List kU} (M : Mem base W w (x0 :: x1 :: x2 :: TL)) : Mem base W w (x2 :: x0 :: x1 :: TL) := Mem.oO (H := [x0, x1, x2]) 3 rfl M [2,0,1] (by decide) (by decide)
theorem Mem.EW {base : Nat} {W w : World} {x0 x1 x2 x3 : kU} {TL : List kU} (M : Mem base W w (x0 :: x1 :: x2 :: x3 :: TL)) : Mem base W w (x2 :: x3 :: x0 :: x1 :: TL) := Mem.oO (H := [x0, x1, x2, x3]) 4 rfl M [2,3,0,1] (by decide) (by decide)
theorem EX {N : Nat} {w0 : World} {r : List Int} (h : uE N  = some r) :
  Calls Tryz.prog 31 #[] w0 fun e w' => ∃ v, e = .returned v ∧ ∃ A0 c0, v = .slice A0 r.length c0 ∧ Mem w0.heap.size w0 w' [.row 3 1 A0 r.length c0 ((cI .i64).all r)] := by
 refine aT Tryz.func31 rfl Tryz.ntmps31 rfl ?_;intro a K;have M := Mem.start w0;have K : Kn a 2 [] := K;unfold uE at h;refine wp_seq (aB ?_);refine aS K M ?_; clear K; intro a K;refine aG (aA (wp_seq (aB ?_)));refine a8 K (dL rfl f6 z3 K (vs := [(0, I 2), (1, I 3), (2, I 3), (3, I 4), (4, I 4), (5, I 4), (6, I 5), (7, I 5), (8, I 5), (9, I 6), (10, I 6), (11, I 6), (12, I 7), (13, I 7), (14, I 7), (15, I 8), (16, I 8)]) (cs := [I 2, I 3, I 3, I 4, I 4, I 4, I 5, I 5, I 5, I 6, I 6, I 6, I 7, I 7, I 7, I 8, I 8]) rfl aO rfl rfl M) ?_;have M0 := M; clear K M; rintro _ a w ⟨gs, rfl, M⟩ K;replace M := M.jM 0 rfl (cI .i64) ([2, 3, 3, 4, 4, 4, 5, 5, 5, 6, 6, 6, 7, 7, 7, 8, 8] : List Int) (n := 17) rfl rfl rfl;clear M0;refine aS K M ?_; clear K; intro a K;refine aG (aA (wp_ret ?_));cases h;exact cD K rfl (aD K rfl) ⟨_, rfl, _, _, rfl, M.pick [0] aJ⟩
theorem DF {N : Nat} {w0 : World} {r : List (Int × Int)} (h : rU N  = some r) :
  Calls Tryz.prog 56 #[] w0 fun e w' => ∃ v, e = .returned v ∧ ∃ A0 c0, v = .slice A0 r.length c0 ∧ Mem w0.heap.size w0 w' [.row 92 2 A0 r.length c0 (fS.all r)] := by
 refine aT Tryz.func56 rfl Tryz.ntmps56 rfl ?_;intro a K;have M := Mem.start w0;have K : Kn a 4 [] := K;unfold rU at h;refine wp_seq (aB ?_);refine aS K M ?_; clear K; intro a K;refine aG (aA (wp_seq (aB ?_)));refine eP K (aM rfl K (vs := []) (cs := [I 0, I 0]) rfl aO) M ?_; clear K;refine bJ (fun _ K => aM rfl K (vs := [(0, I 65535), (1, I 65535)]) (cs := [I 65535, I 65535]) rfl aO) M ?_; intro a K;refine a8 K (dL rfl sl64 N1 K (vs := [(0, .agg #[I 0, I 0]), (1, .agg #[I 65535, I 65535])]) (cs := [I 0, I 0, I 65535, I 65535]) rfl aO rfl rfl M) ?_;have M0 := M; clear K M; rintro _ a w ⟨gs, rfl, M⟩ K;replace M := M.jM 0 rfl fS ([(0, 0), (65535, 65535)] : List (Int × Int)) (n := 2) rfl rfl rfl;clear M0;refine aS K M ?_; clear K; intro a K;refine aG (aA (wp_ret ?_));cases h;exact cD K rfl (aD K rfl) ⟨_, rfl, _, _, rfl, M.pick [0] aJ⟩
theorem DG {N : Nat} {w0 : World} {r : Int × Int × Int × Int × Int × Int × List (Int × Int) × Int × Int × Int × Int × Int × Int × Int × Int × Int × Int × Int × Int × List (Int × Int) × Int} (h : rV N  = some r) :
  Calls Tryz.prog 32 #[] w0 fun e w' => ∃ v, e = .returned v ∧ ∃ A6 c6 Nt c19, v = .agg #[I r.1, I r.2.1, I r.2.2.1, I r.2.2.2.1, I r.2.2.2.2.1, I r.2.2.2.2.2.1, .slice A6 r.2.2.2.2.2.2.1.length c6, I r.2.2.2.2.2.2.2.1, I r.2.2.2.2.2.2.2.2.1, I r.2.2.2.2.2.2.2.2.2.1, I r.2.2.2.2.2.2.2.2.2.2.1, I r.2.2.2.2.2.2.2.2.2.2.2.1, I r.2.2.2.2.2.2.2.2.2.2.2.2.1, I r.2.2.2.2.2.2.2.2.2.2.2.2.2.1, I r.2.2.2.2.2.2.2.2.2.2.2.2.2.2.1, I r.2.2.2.2.2.2.2.2.2.2.2.2.2.2.2.1, I r.2.2.2.2.2.2.2.2.2.2.2.2.2.2.2.2.1, I r.2.2.2.2.2.2.2.2.2.2.2.2.2.2.2.2.2.1, I r.2.2.2.2.2.2.2.2.2.2.2.2.2.2.2.2.2.2.1, .slice Nt r.2.2.2.2.2.2.2.2.2.2.2.2.2.2.2.2.2.2.2.1.length c19, I r.2.2.2.2.2.2.2.2.2.2.2.2.2.2.2.2.2.2.2.2] ∧ Mem w0.heap.size w0 w' [.row 91 2 A6 r.2.2.2.2.2.2.1.length c6 (fS.all r.2.2.2.2.2.2.1), .row 92 2 Nt r.2.2.2.2.2.2.2.2.2.2.2.2.2.2.2.2.2.2.2.1.length c19 (fS.all r.2.2.2.2.2.2.2.2.2.2.2.2.2.2.2.2.2.2.2.1)] := by
 refine aT Tryz.func32 rfl Tryz.ntmps32 rfl ?_;intro a K;have M := Mem.start w0;have K : Kn a 5 [] := K;unfold rV at h;refine wp_seq (aB ?_);refine a8 K (aQ rfl z66 M) ?_;clear K M; rintro _ a w ⟨dU, rfl, M⟩ K;refine aG (aA (wp_seq (aB ?_)));refine eP K (aM rfl K (vs := [(0, I 256), (1, I 256), (2, I 256)]) (cs := [I 256, I 256, I 256]) rfl aO) M ?_; clear K;refine bJ (fun _ K => aM rfl K (vs := [(0, I 4096), (1, I 0), (2, I 0), (3, I 0), (4, I 4096), (5, I 0), (6, I 0), (7, I 0), (8, I 4096)]) (cs := [I 4096, I 0, I 0, I 0, I 4096, I 0, I 0, I 0, I 4096]) rfl aO) M ?_; intro a K;obtain ⟨r2, eE, h⟩ := aE h;refine a8 K (fR VZ K (DF eE)) ?_;clear K; rintro _ a w ⟨A, c, rfl, Zq⟩ K;replace M := M.call Zq; clear Zq;refine eP K (aM rfl K (vs := [(2, I 65535), (4, .agg #[I 256, I 256, I 256]), (5, .agg #[I 4096, I 0, I 0, I 0, I 4096, I 0, I 0, I 0, I 4096]), (6, .slice A r2.length c), (7, I 64)]) (cs := [I 0, I 0, I 0, I 0, I 0, I 65535, .slice none (([] : List (Int × Int))).length 0, I 256, I 256, I 256, I 4096, I 0, I 0, I 0, I 4096, I 0, I 0, I 0, I 4096, .slice A r2.length c, I 64]) rfl aO) M ?_; clear K; intro a K;refine dW K (aF rfl IB K rfl (ds := [I 0, I 0, I 0, I 0, I 0, I 65535, .slice none (([] : List (Int × Int))).length 0, I 256, I 256, I 256, I 4096, I 0, I 0, I 0, I 4096, I 0, I 0, I 0, I 4096, .slice A r2.length c, I 64]) rfl rfl 1 M rfl rfl rfl) ?_;clear K M; rintro _ a w M K;refine aG (aA (wp_ret ?_));cases h;exact cD K rfl (aK K rfl IB (M.aP (i := 1) rfl) rfl) ⟨_, rfl, _, _, _, _, rfl, (((Mem.aN 91 2 fS M)).pick [0,1] aJ)⟩
theorem DH {N : Nat} {w0 : World} {r : Int × Int × List Int} (h : rW N  = some r) :
  Calls Tryz.prog 33 #[] w0 fun e w' => ∃ v, e = .returned v ∧ ∃ A2 c2, v = .agg #[I r.1, I r.2.1, .slice A2 r.2.2.length c2] ∧ Mem w0.heap.size w0 w' [.row 3 1 A2 r.2.2.length c2 ((cI .i64).all r.2.2)] := by
 refine aT Tryz.func33 rfl Tryz.ntmps33 rfl ?_;intro a K;have M := Mem.start w0;have K : Kn a 3 [] := K;unfold rW at h;refine wp_seq (aB ?_);refine a8 K (aQ rfl z35 M) ?_;clear K M; rintro _ a w ⟨dU, rfl, M⟩ K;refine aG (aA (wp_seq (aB ?_)));refine a8 K (dL rfl f6 z3 K (vs := [(0, I 10), (1, I 65535), (2, I 0), (3, I 7)]) (cs := [I 10, I 65535, I 0, I 7]) rfl aO rfl rfl M) ?_;have M0 := M; clear K M; rintro _ a w ⟨gs, rfl, M⟩ K;replace M := M.jM 0 rfl (cI .i64) ([10, 65535, 0, 7] : List Int) (n := 4) rfl rfl rfl;clear M0;refine eP K (aM rfl K (vs := [(0, I 2), (1, I 2), (2, .slice (some ⟨gs, 0, none⟩) ([10, 65535, 0, 7] : List Int).length 4)]) (cs := [I 2, I 2, .slice (some ⟨gs, 0, none⟩) ([10, 65535, 0, 7] : List Int).length 4]) rfl aO) M ?_; clear K; intro a K;refine dW K (aF rfl eR K rfl (ds := [I 2, I 2, .slice (some ⟨gs, 0, none⟩) ([10, 65535, 0, 7] : List Int).length 4]) rfl rfl 1 M rfl rfl rfl) ?_;clear K M; rintro _ a w M K;refine aG (aA (wp_ret ?_));cases h;exact cD K rfl (aK K rfl eR (M.aP (i := 1) rfl) rfl) ⟨_, rfl, _, _, rfl, M.pick [0] aJ⟩
theorem vC {N : Nat} {s : List (Int × Int)} {Dk : Option Addr} {En : Nat} {w0 : World} {r : List (Int × Int)} (h : lM N s = some r) (GF : SL w0 fS Dk s) (Oj : s.length ≤ En) :
  Calls Tryz.prog 51 #[.slice Dk s.length En] w0 fun e w' => ∃ v, e = .returned v ∧ ∃ A0 c0, v = .slice A0 r.length c0 ∧ Mem w0.heap.size w0 w' [.row 91 2 A0 r.length c0 (fS.all r)] := by
 refine aT Tryz.func51 rfl Tryz.ntmps51 rfl ?_;intro a K;have M := Mem.start w0;have K : Kn a 8 [(0, _)] := K;unfold lM at h;refine wp_seq (aB ?_);refine aS K M ?_; clear K; intro a K;refine aG (aA (wp_seq (wp_seq (aB ?_))));refine aS K M ?_; clear K; intro a K
 by_cases hA : (Dk).isNone = true
 ·have hs := SL.Fk GF hA;replace h : some ([] : List (Int × Int)) = some r := by rw [hs] at h; exact h
  clear hs;refine eP K (B6 (b' := true) hA (u6 rfl QY K rfl rfl)) M ?_; clear K; intro a K;refine aG (aA ?_);refine aY K rfl ?_;refine wp_seq (aB ?_);refine aS K M ?_; clear K; intro a K;refine aG (aA (wp_ret (aH ?_)));cases h;exact cD K rfl (aD K rfl) ⟨_, rfl, _, _, rfl, (((Mem.aN 91 2 fS M)).pick [0] aJ)⟩
 refine eP K (B6 (b' := false) ((Bool.not_eq_true _).mp hA) (u6 rfl QY K rfl rfl)) M ?_; clear K; intro a K;refine aG (aA ?_);refine lH K rfl ?_;refine wp_skip (aA (wp_seq (aB ?_)));refine a8 K (CJ (C := fS) rfl Dg rfl K M) ?_;clear K M; rintro _ a w ⟨gs, rfl, M⟩ K;refine aS K M ?_; clear K; intro a K;obtain ⟨l2, sT, h⟩ := aE h;refine a8 K (j3 (C := fS) (xs := ([] : List (Int × Int))) (ys := s) rfl Dg rfl z91 rfl rfl K rfl rfl 0 M rfl ((eB GF) _ M) sT) ?_;clear K M; rintro _ a w ⟨A, c, rfl, M⟩ K;refine aS K M ?_; clear K; intro a K;refine aG (aA (wp_ret ?_));cases h;exact cD K rfl (aD K rfl) ⟨_, rfl, _, _, rfl, M.pick [0] aJ⟩
theorem tT {N : Nat} {s : List (Int × Int)} {Dk : Option Addr} {En : Nat} {w0 : World} {r : List (Int × Int)} (h : k5 N s = some r) (GF : SL w0 fS Dk s) (Oj : s.length ≤ En) :
  Calls Tryz.prog 52 #[.slice Dk s.length En] w0 fun e w' => ∃ v, e = .returned v ∧ ∃ A0 c0, v = .slice A0 r.length c0 ∧ Mem w0.heap.size w0 w' [.row 92 2 A0 r.length c0 (fS.all r)] := by
 refine aT Tryz.func52 rfl Tryz.ntmps52 rfl ?_;intro a K;have M := Mem.start w0;have K : Kn a 8 [(0, _)] := K;unfold k5 at h;refine wp_seq (aB ?_);refine aS K M ?_; clear K; intro a K;refine aG (aA (wp_seq (wp_seq (aB ?_))));refine aS K M ?_; clear K; intro a K
 by_cases hA : (Dk).isNone = true
 ·have hs := SL.Fk GF hA;replace h : some ([] : List (Int × Int)) = some r := by rw [hs] at h; exact h
  clear hs;refine eP K (B6 (b' := true) hA (u6 rfl TT K rfl rfl)) M ?_; clear K; intro a K;refine aG (aA ?_);refine aY K rfl ?_;refine wp_seq (aB ?_);refine aS K M ?_; clear K; intro a K;refine aG (aA (wp_ret (aH ?_)));cases h;exact cD K rfl (aD K rfl) ⟨_, rfl, _, _, rfl, (((Mem.aN 92 2 fS M)).pick [0] aJ)⟩
 refine eP K (B6 (b' := false) ((Bool.not_eq_true _).mp hA) (u6 rfl TT K rfl rfl)) M ?_; clear K; intro a K;refine aG (aA ?_);refine lH K rfl ?_;refine wp_skip (aA (wp_seq (aB ?_)));refine a8 K (CJ (C := fS) rfl sl64 rfl K M) ?_;clear K M; rintro _ a w ⟨gs, rfl, M⟩ K;refine aS K M ?_; clear K; intro a K;obtain ⟨l2, sT, h⟩ := aE h;refine a8 K (j3 (C := fS) (xs := ([] : List (Int × Int))) (ys := s) rfl sl64 rfl N1 rfl rfl K rfl rfl 0 M rfl ((eB GF) _ M) sT) ?_;clear K M; rintro _ a w ⟨A, c, rfl, M⟩ K;refine aS K M ?_; clear K; intro a K;refine aG (aA (wp_ret ?_));cases h;exact cD K rfl (aD K rfl) ⟨_, rfl, _, _, rfl, M.pick [0] aJ⟩
theorem k7 {N : Nat} {s : List (Int × Int × Int)} {Dk : Option Addr} {En : Nat} {w0 : World} {r : List (Int × Int × Int)} (h : k6 N s = some r) (GF : SL w0 bI Dk s) (Oj : s.length ≤ En) :
  Calls Tryz.prog 105 #[.slice Dk s.length En] w0 fun e w' => ∃ v, e = .returned v ∧ ∃ A0 c0, v = .slice A0 r.length c0 ∧ Mem w0.heap.size w0 w' [.row 48 3 A0 r.length c0 (bI.all r)] := by
 refine aT Tryz.func105 rfl Tryz.ntmps105 rfl ?_;intro a K;have M := Mem.start w0;have K : Kn a 8 [(0, _)] := K;unfold k6 at h;refine wp_seq (aB ?_);refine aS K M ?_; clear K; intro a K;refine aG (aA (wp_seq (wp_seq (aB ?_))));refine aS K M ?_; clear K; intro a K
 by_cases hA : (Dk).isNone = true
 ·have hs := SL.Fk GF hA;replace h : some ([] : List (Int × Int × Int)) = some r := by rw [hs] at h; exact h
  clear hs;refine eP K (B6 (b' := true) hA (u6 rfl Iy K rfl rfl)) M ?_; clear K; intro a K;refine aG (aA ?_);refine aY K rfl ?_;refine wp_seq (aB ?_);refine aS K M ?_; clear K; intro a K;refine aG (aA (wp_ret (aH ?_)));cases h;exact cD K rfl (aD K rfl) ⟨_, rfl, _, _, rfl, (((Mem.aN 48 3 bI M)).pick [0] aJ)⟩
 refine eP K (B6 (b' := false) ((Bool.not_eq_true _).mp hA) (u6 rfl Iy K rfl rfl)) M ?_; clear K; intro a K;refine aG (aA ?_);refine lH K rfl ?_;refine wp_skip (aA (wp_seq (aB ?_)));refine a8 K (CJ (C := bI) rfl lB rfl K M) ?_;clear K M; rintro _ a w ⟨gs, rfl, M⟩ K;refine aS K M ?_; clear K; intro a K;obtain ⟨l2, sT, h⟩ := aE h;refine a8 K (j3 (C := bI) (xs := ([] : List (Int × Int × Int))) (ys := s) rfl lB rfl z48 rfl rfl K rfl rfl 0 M rfl ((eB GF) _ M) sT) ?_;clear K M; rintro _ a w ⟨A, c, rfl, M⟩ K;refine aS K M ?_; clear K; intro a K;refine aG (aA (wp_ret ?_));cases h;exact cD K rfl (aD K rfl) ⟨_, rfl, _, _, rfl, M.pick [0] aJ⟩
end
section
open Go.RowKit Go.Shelf
def Lk : Go.Shelf.Ren := ⟨fun | 160 => 143 | 232 => 153 | 231 => 152 | 227 => 154 | 234 => 156 | 233 => 155 | 236 => 158 | 235 => 157 | 228 => 163 | 271 => 166 | 151 => 165 | 197 => 164 | 120 => 170 | 152 => 169 | 260 => 168 | 137 => 171 | 119 => 172 | 224 => 113 | 225 => 112 | 217 => 111 | 266 => 137 | n => n, fun | 9 => 9 | 4 => 4 | 3 => 3 | 5 => 5 | 117 => 233 | 116 => 232 | 0 => 0 | 124 => 236 | 21 => 21 | 105 => 242 | 46 => 51 | 119 => 246 | 139 => 249 | 138 => 248 | n => n, fun | 3 => 6 | 4 => 7 | n => n⟩
theorem Ri : Go.Proofs.Lays.n160 Tryz.prog Lk := {
 mixed := by kernel_rfl
 f119 := Tryz.func172.trans (congrArg some (by kernel_rfl))
 f120 := Tryz.func170.trans (congrArg some (by kernel_rfl))
 f137 := Tryz.func171.trans (congrArg some (by kernel_rfl))
 f151 := Tryz.func165.trans (congrArg some (by kernel_rfl))
 f152 := Tryz.func169.trans (congrArg some (by kernel_rfl))
 f160 := Tryz.func143.trans (congrArg some (by kernel_rfl))
 f197 := Tryz.func164.trans (congrArg some (by kernel_rfl))
 f217 := Tryz.func111.trans (congrArg some (by kernel_rfl))
 f224 := Tryz.func113.trans (congrArg some (by kernel_rfl))
 f225 := Tryz.func112.trans (congrArg some (by kernel_rfl))
 f227 := Tryz.func154.trans (congrArg some (by kernel_rfl))
 f228 := Tryz.func163.trans (congrArg some (by kernel_rfl))
 f231 := Tryz.func152.trans (congrArg some (by kernel_rfl))
 f232 := Tryz.func153.trans (congrArg some (by kernel_rfl))
 f233 := Tryz.func155.trans (congrArg some (by kernel_rfl))
 f234 := Tryz.func156.trans (congrArg some (by kernel_rfl))
 f235 := Tryz.func157.trans (congrArg some (by kernel_rfl))
 f236 := Tryz.func158.trans (congrArg some (by kernel_rfl))
 f260 := Tryz.func168.trans (congrArg some (by kernel_rfl))
 f266 := Tryz.func137.trans (congrArg some (by kernel_rfl))
 f271 := Tryz.func166.trans (congrArg some (by kernel_rfl))
 t0 := Tryz.underlying0
 a0 := Tryz.isAgg0
 z0 := Tryz.sizeOf0
 v0 := Tryz.zeroValue0
 t3 := Tryz.underlying3
 a3 := Tryz.isAgg3
 z3 := Tryz.sizeOf3
 v3 := Tryz.zeroValue3
 t4 := Tryz.underlying4
 a4 := Tryz.isAgg4
 z4 := Tryz.sizeOf4
 v4 := Tryz.zeroValue4
 t5 := Tryz.underlying5
 a5 := Tryz.isAgg5
 z5 := Tryz.sizeOf5
 v5 := Tryz.zeroValue5
 t9 := Tryz.underlying9
 a9 := Tryz.isAgg9
 z9 := Tryz.sizeOf9
 v9 := Tryz.zeroValue9
 t21 := Tryz.underlying21
 a21 := Tryz.isAgg21
 z21 := Tryz.sizeOf21
 v21 := Tryz.zeroValue21
 t46 := Tryz.underlying51
 a46 := Tryz.isAgg51
 z46 := Tryz.sizeOf51
 v46 := Tryz.zeroValue51
 t105 := Tryz.underlying242
 a105 := Tryz.isAgg242
 z105 := Tryz.sizeOf242
 v105 := Tryz.zeroValue242
 t116 := Tryz.underlying232
 a116 := Tryz.isAgg232
 z116 := Tryz.sizeOf232
 t117 := Tryz.underlying233
 a117 := Tryz.isAgg233
 z117 := Tryz.sizeOf233
 v117 := Tryz.zeroValue233
 t119 := Tryz.underlying246
 a119 := Tryz.isAgg246
 z119 := Tryz.sizeOf246
 t124 := Tryz.underlying236
 a124 := Tryz.isAgg236
 z124 := Tryz.sizeOf236
 v124 := Tryz.zeroValue236
 t138 := Tryz.underlying248
 a138 := Tryz.isAgg248
 z138 := Tryz.sizeOf248
 v138 := Tryz.zeroValue248
 t139 := Tryz.underlying249
 a139 := Tryz.isAgg249
 z139 := Tryz.sizeOf249
 v139 := Tryz.zeroValue249
 g3 := by kernel_rfl
 g4 := by kernel_rfl }
def Ll : Go.Shelf.Ren := ⟨fun | 138 => 144 | 195 => 159 | 218 => 160 | 143 => 146 | 219 => 79 | 217 => 111 | 225 => 112 | 224 => 113 | 267 => 114 | 266 => 137 | 314 => 138 | n => n, fun | 9 => 9 | 3 => 3 | 4 => 4 | 5 => 5 | 0 => 0 | 46 => 51 | 146 => 214 | 51 => 180 | n => n, fun | 1 => 1 | n => n⟩
theorem Rj : Go.Proofs.Lays.n138 Tryz.prog Ll := {
 mixed := by kernel_rfl
 f138 := Tryz.func144.trans (congrArg some (by kernel_rfl))
 f143 := Tryz.func146.trans (congrArg some (by kernel_rfl))
 f195 := Tryz.func159.trans (congrArg some (by kernel_rfl))
 f217 := Tryz.func111.trans (congrArg some (by kernel_rfl))
 f218 := Tryz.func160.trans (congrArg some (by kernel_rfl))
 f219 := Tryz.func79.trans (congrArg some (by kernel_rfl))
 f224 := Tryz.func113.trans (congrArg some (by kernel_rfl))
 f225 := Tryz.func112.trans (congrArg some (by kernel_rfl))
 f266 := Tryz.func137.trans (congrArg some (by kernel_rfl))
 f267 := Tryz.func114.trans (congrArg some (by kernel_rfl))
 f314 := Tryz.func138.trans (congrArg some (by kernel_rfl))
 t0 := Tryz.underlying0
 a0 := Tryz.isAgg0
 z0 := Tryz.sizeOf0
 v0 := Tryz.zeroValue0
 t3 := Tryz.underlying3
 a3 := Tryz.isAgg3
 z3 := Tryz.sizeOf3
 v3 := Tryz.zeroValue3
 t4 := Tryz.underlying4
 a4 := Tryz.isAgg4
 z4 := Tryz.sizeOf4
 v4 := Tryz.zeroValue4
 t5 := Tryz.underlying5
 a5 := Tryz.isAgg5
 z5 := Tryz.sizeOf5
 v5 := Tryz.zeroValue5
 t9 := Tryz.underlying9
 a9 := Tryz.isAgg9
 z9 := Tryz.sizeOf9
 v9 := Tryz.zeroValue9
 t46 := Tryz.underlying51
 a46 := Tryz.isAgg51
 z46 := Tryz.sizeOf51
 v46 := Tryz.zeroValue51
 t51 := Tryz.underlying180
 a51 := Tryz.isAgg180
 z51 := Tryz.sizeOf180
 v51 := Tryz.zeroValue180
 t146 := Tryz.underlying214
 a146 := Tryz.isAgg214
 z146 := Tryz.sizeOf214
 v146 := Tryz.zeroValue214
 g1 := by kernel_rfl }
def GG : Go.Shelf.Ren := ⟨fun | 169 => 12 | n => n, fun | 70 => 38 | 9 => 9 | 0 => 0 | 72 => 41 | 37 => 39 | 127 => 81 | 3 => 3 | 5 => 5 | n => n, fun | n => n⟩
theorem Rk : Go.Proofs.Lays.n169 Tryz.prog GG := {
 mixed := by kernel_rfl
 f169 := Tryz.func12.trans (congrArg some (by kernel_rfl))
 t0 := Tryz.underlying0
 a0 := Tryz.isAgg0
 z0 := Tryz.sizeOf0
 v0 := Tryz.zeroValue0
 t3 := Tryz.underlying3
 a3 := Tryz.isAgg3
 z3 := Tryz.sizeOf3
 v3 := Tryz.zeroValue3
 t9 := Tryz.underlying9
 a9 := Tryz.isAgg9
 z9 := Tryz.sizeOf9
 v9 := Tryz.zeroValue9
 t37 := Tryz.underlying39
 a37 := Tryz.isAgg39
 z37 := Tryz.sizeOf39
 v37 := Tryz.zeroValue39
 t70 := Tryz.underlying38
 a70 := Tryz.isAgg38
 z70 := Tryz.sizeOf38
 v70 := Tryz.zeroValue38
 t72 := Tryz.underlying41
 a72 := Tryz.isAgg41
 z72 := Tryz.sizeOf41
 v72 := Tryz.zeroValue41
 t127 := Tryz.underlying81
 a127 := Tryz.isAgg81
 z127 := Tryz.sizeOf81
 v127 := Tryz.zeroValue81 }
def Lm : Go.Shelf.Ren := ⟨fun | 144 => 129 | 143 => 146 | 219 => 79 | 217 => 111 | 225 => 112 | 224 => 113 | 267 => 114 | 266 => 137 | 314 => 138 | n => n, fun | 9 => 9 | 4 => 4 | 3 => 3 | 5 => 5 | 46 => 51 | 146 => 214 | 51 => 180 | n => n, fun | 1 => 1 | n => n⟩
theorem Rl : Go.Proofs.Lays.n144 Tryz.prog Lm := {
 mixed := by kernel_rfl
 f143 := Tryz.func146.trans (congrArg some (by kernel_rfl))
 f144 := Tryz.func129.trans (congrArg some (by kernel_rfl))
 f217 := Tryz.func111.trans (congrArg some (by kernel_rfl))
 f219 := Tryz.func79.trans (congrArg some (by kernel_rfl))
 f224 := Tryz.func113.trans (congrArg some (by kernel_rfl))
 f225 := Tryz.func112.trans (congrArg some (by kernel_rfl))
 f266 := Tryz.func137.trans (congrArg some (by kernel_rfl))
 f267 := Tryz.func114.trans (congrArg some (by kernel_rfl))
 f314 := Tryz.func138.trans (congrArg some (by kernel_rfl))
 t3 := Tryz.underlying3
 a3 := Tryz.isAgg3
 z3 := Tryz.sizeOf3
 v3 := Tryz.zeroValue3
 t4 := Tryz.underlying4
 a4 := Tryz.isAgg4
 z4 := Tryz.sizeOf4
 v4 := Tryz.zeroValue4
 t5 := Tryz.underlying5
 a5 := Tryz.isAgg5
 z5 := Tryz.sizeOf5
 v5 := Tryz.zeroValue5
 t9 := Tryz.underlying9
 a9 := Tryz.isAgg9
 z9 := Tryz.sizeOf9
 v9 := Tryz.zeroValue9
 t46 := Tryz.underlying51
 a46 := Tryz.isAgg51
 z46 := Tryz.sizeOf51
 v46 := Tryz.zeroValue51
 t51 := Tryz.underlying180
 a51 := Tryz.isAgg180
 z51 := Tryz.sizeOf180
 v51 := Tryz.zeroValue180
 t146 := Tryz.underlying214
 a146 := Tryz.isAgg214
 z146 := Tryz.sizeOf214
 v146 := Tryz.zeroValue214
 g1 := by kernel_rfl }
def Ln : Go.Shelf.Ren := ⟨fun | 219 => 79 | 217 => 111 | 225 => 112 | 224 => 113 | 267 => 114 | 266 => 137 | 314 => 138 | n => n, fun | 9 => 9 | 3 => 3 | 4 => 4 | 5 => 5 | 46 => 51 | 146 => 214 | 51 => 180 | n => n, fun | 1 => 1 | n => n⟩
theorem Rm : Go.Proofs.Lays.n219 Tryz.prog Ln := {
 mixed := by kernel_rfl
 f217 := Tryz.func111.trans (congrArg some (by kernel_rfl))
 f219 := Tryz.func79.trans (congrArg some (by kernel_rfl))
 f224 := Tryz.func113.trans (congrArg some (by kernel_rfl))
 f225 := Tryz.func112.trans (congrArg some (by kernel_rfl))
 f266 := Tryz.func137.trans (congrArg some (by kernel_rfl))
 f267 := Tryz.func114.trans (congrArg some (by kernel_rfl))
 f314 := Tryz.func138.trans (congrArg some (by kernel_rfl))
 t3 := Tryz.underlying3
 a3 := Tryz.isAgg3
 z3 := Tryz.sizeOf3
 v3 := Tryz.zeroValue3
 t4 := Tryz.underlying4
 a4 := Tryz.isAgg4
 z4 := Tryz.sizeOf4
 v4 := Tryz.zeroValue4
 t5 := Tryz.underlying5
 a5 := Tryz.isAgg5
 z5 := Tryz.sizeOf5
 v5 := Tryz.zeroValue5
 t9 := Tryz.underlying9
 a9 := Tryz.isAgg9
 z9 := Tryz.sizeOf9
 v9 := Tryz.zeroValue9
 t46 := Tryz.underlying51
 a46 := Tryz.isAgg51
 z46 := Tryz.sizeOf51
 v46 := Tryz.zeroValue51
 t51 := Tryz.underlying180
 a51 := Tryz.isAgg180
 z51 := Tryz.sizeOf180
 v51 := Tryz.zeroValue180
 t146 := Tryz.underlying214
 a146 := Tryz.isAgg214
 z146 := Tryz.sizeOf214
 v146 := Tryz.zeroValue214
 g1 := by kernel_rfl }
def Lo : Go.Shelf.Ren := ⟨fun | 171 => 10 | 243 => 23 | 246 => 41 | 283 => 75 | 284 => 76 | 285 => 77 | 286 => 78 | 129 => 107 | 317 => 106 | 318 => 108 | 319 => 109 | 320 => 110 | 337 => 135 | 338 => 136 | n => n, fun | 3 => 3 | 9 => 9 | 2 => 2 | 4 => 4 | 171 => 141 | 0 => 0 | 53 => 142 | 37 => 39 | 5 => 5 | 173 => 145 | 212 => 179 | 51 => 180 | 20 => 20 | 213 => 181 | 46 => 51 | 232 => 226 | 233 => 227 | n => n, fun | 17 => 0 | 18 => 4 | 19 => 5 | n => n⟩
theorem Rn : Go.Proofs.LaysM.n171 Tryz.prog Lo := {
 mixed := by kernel_rfl
 f129 := Tryz.func107.trans (congrArg some (by kernel_rfl))
 f171 := Tryz.func10.trans (congrArg some (by kernel_rfl))
 f243 := Tryz.func23.trans (congrArg some (by kernel_rfl))
 f246 := Tryz.func41.trans (congrArg some (by kernel_rfl))
 f283 := Tryz.func75.trans (congrArg some (by kernel_rfl))
 f284 := Tryz.func76.trans (congrArg some (by kernel_rfl))
 f285 := Tryz.func77.trans (congrArg some (by kernel_rfl))
 f286 := Tryz.func78.trans (congrArg some (by kernel_rfl))
 f317 := Tryz.func106.trans (congrArg some (by kernel_rfl))
 f318 := Tryz.func108.trans (congrArg some (by kernel_rfl))
 f319 := Tryz.func109.trans (congrArg some (by kernel_rfl))
 f320 := Tryz.func110.trans (congrArg some (by kernel_rfl))
 f337 := Tryz.func135.trans (congrArg some (by kernel_rfl))
 f338 := Tryz.func136.trans (congrArg some (by kernel_rfl))
 t0 := Tryz.underlying0
 a0 := Tryz.isAgg0
 z0 := Tryz.sizeOf0
 v0 := Tryz.zeroValue0
 t2 := Tryz.underlying2
 a2 := Tryz.isAgg2
 z2 := Tryz.sizeOf2
 v2 := Tryz.zeroValue2
 t3 := Tryz.underlying3
 a3 := Tryz.isAgg3
 z3 := Tryz.sizeOf3
 v3 := Tryz.zeroValue3
 t4 := Tryz.underlying4
 a4 := Tryz.isAgg4
 z4 := Tryz.sizeOf4
 v4 := Tryz.zeroValue4
 t5 := Tryz.underlying5
 a5 := Tryz.isAgg5
 z5 := Tryz.sizeOf5
 v5 := Tryz.zeroValue5
 t9 := Tryz.underlying9
 a9 := Tryz.isAgg9
 z9 := Tryz.sizeOf9
 v9 := Tryz.zeroValue9
 t20 := Tryz.underlying20
 a20 := Tryz.isAgg20
 z20 := Tryz.sizeOf20
 v20 := Tryz.zeroValue20
 t37 := Tryz.underlying39
 a37 := Tryz.isAgg39
 z37 := Tryz.sizeOf39
 v37 := Tryz.zeroValue39
 t46 := Tryz.underlying51
 a46 := Tryz.isAgg51
 z46 := Tryz.sizeOf51
 v46 := Tryz.zeroValue51
 t51 := Tryz.underlying180
 a51 := Tryz.isAgg180
 z51 := Tryz.sizeOf180
 v51 := Tryz.zeroValue180
 t53 := Tryz.underlying142
 a53 := Tryz.isAgg142
 z53 := Tryz.sizeOf142
 v53 := Tryz.zeroValue142
 t171 := Tryz.underlying141
 a171 := Tryz.isAgg141
 z171 := Tryz.sizeOf141
 v171 := Tryz.zeroValue141
 t173 := Tryz.underlying145
 a173 := Tryz.isAgg145
 z173 := Tryz.sizeOf145
 v173 := Tryz.zeroValue145
 t212 := Tryz.underlying179
 a212 := Tryz.isAgg179
 z212 := Tryz.sizeOf179
 v212 := Tryz.zeroValue179
 t213 := Tryz.underlying181
 a213 := Tryz.isAgg181
 z213 := Tryz.sizeOf181
 t232 := Tryz.underlying226
 a232 := Tryz.isAgg226
 z232 := Tryz.sizeOf226
 v232 := Tryz.zeroValue226
 t233 := Tryz.underlying227
 a233 := Tryz.isAgg227
 z233 := Tryz.sizeOf227
 v233 := Tryz.zeroValue227
 g17 := by kernel_rfl
 g18 := by kernel_rfl
 g19 := by kernel_rfl
 i0 := by kernel_rfl
 i2 := by kernel_rfl
 i3 := by kernel_rfl
 i4 := by kernel_rfl
 i5 := by kernel_rfl
 i9 := by kernel_rfl
 i20 := by kernel_rfl
 i37 := by kernel_rfl
 i46 := by kernel_rfl
 i51 := by kernel_rfl
 i53 := by kernel_rfl
 i171 := by kernel_rfl
 i173 := by kernel_rfl
 i212 := by kernel_rfl
 i232 := by kernel_rfl
 i233 := by kernel_rfl
 m17 := by kernel_rfl
 m18 := by kernel_rfl
 m19 := by kernel_rfl }
def Lp : Go.Shelf.Ren := ⟨fun | 172 => 26 | 244 => 44 | 245 => 45 | 247 => 80 | 279 => 81 | 280 => 82 | 281 => 83 | 282 => 84 | 287 => 115 | 316 => 116 | 171 => 10 | 205 => 117 | 321 => 139 | 322 => 140 | 243 => 23 | 246 => 41 | 283 => 75 | 284 => 76 | 285 => 77 | 286 => 78 | 129 => 107 | 317 => 106 | 318 => 108 | 319 => 109 | 320 => 110 | 337 => 135 | 338 => 136 | n => n, fun | 9 => 9 | 3 => 3 | 75 => 43 | 76 => 44 | 4 => 4 | 5 => 5 | 167 => 148 | 37 => 39 | 0 => 0 | 85 => 149 | 2 => 2 | 168 => 151 | 53 => 142 | 175 => 183 | 46 => 51 | 210 => 187 | 127 => 81 | 145 => 219 | 143 => 217 | 21 => 21 | 171 => 141 | 173 => 145 | 212 => 179 | 51 => 180 | 20 => 20 | 213 => 181 | 232 => 226 | 233 => 227 | 80 => 52 | n => n, fun | 15 => 2 | 16 => 3 | 17 => 0 | 18 => 4 | 19 => 5 | n => n⟩
theorem JZ : Go.Proofs.LaysC.n172 Tryz.prog Lp := {
 mixed := by kernel_rfl
 f129 := Tryz.func107.trans (congrArg some (by kernel_rfl))
 f171 := Tryz.func10.trans (congrArg some (by kernel_rfl))
 f172 := Tryz.func26.trans (congrArg some (by kernel_rfl))
 f205 := Tryz.func117.trans (congrArg some (by kernel_rfl))
 f243 := Tryz.func23.trans (congrArg some (by kernel_rfl))
 f244 := Tryz.func44.trans (congrArg some (by kernel_rfl))
 f245 := Tryz.func45.trans (congrArg some (by kernel_rfl))
 f246 := Tryz.func41.trans (congrArg some (by kernel_rfl))
 f247 := Tryz.func80.trans (congrArg some (by kernel_rfl))
 f279 := Tryz.func81.trans (congrArg some (by kernel_rfl))
 f280 := Tryz.func82.trans (congrArg some (by kernel_rfl))
 f281 := Tryz.func83.trans (congrArg some (by kernel_rfl))
 f282 := Tryz.func84.trans (congrArg some (by kernel_rfl))
 f283 := Tryz.func75.trans (congrArg some (by kernel_rfl))
 f284 := Tryz.func76.trans (congrArg some (by kernel_rfl))
 f285 := Tryz.func77.trans (congrArg some (by kernel_rfl))
 f286 := Tryz.func78.trans (congrArg some (by kernel_rfl))
 f287 := Tryz.func115.trans (congrArg some (by kernel_rfl))
 f316 := Tryz.func116.trans (congrArg some (by kernel_rfl))
 f317 := Tryz.func106.trans (congrArg some (by kernel_rfl))
 f318 := Tryz.func108.trans (congrArg some (by kernel_rfl))
 f319 := Tryz.func109.trans (congrArg some (by kernel_rfl))
 f320 := Tryz.func110.trans (congrArg some (by kernel_rfl))
 f321 := Tryz.func139.trans (congrArg some (by kernel_rfl))
 f322 := Tryz.func140.trans (congrArg some (by kernel_rfl))
 f337 := Tryz.func135.trans (congrArg some (by kernel_rfl))
 f338 := Tryz.func136.trans (congrArg some (by kernel_rfl))
 t0 := Tryz.underlying0
 a0 := Tryz.isAgg0
 z0 := Tryz.sizeOf0
 v0 := Tryz.zeroValue0
 t2 := Tryz.underlying2
 a2 := Tryz.isAgg2
 z2 := Tryz.sizeOf2
 v2 := Tryz.zeroValue2
 t3 := Tryz.underlying3
 a3 := Tryz.isAgg3
 z3 := Tryz.sizeOf3
 v3 := Tryz.zeroValue3
 t4 := Tryz.underlying4
 a4 := Tryz.isAgg4
 z4 := Tryz.sizeOf4
 v4 := Tryz.zeroValue4
 t5 := Tryz.underlying5
 a5 := Tryz.isAgg5
 z5 := Tryz.sizeOf5
 v5 := Tryz.zeroValue5
 t9 := Tryz.underlying9
 a9 := Tryz.isAgg9
 z9 := Tryz.sizeOf9
 v9 := Tryz.zeroValue9
 t20 := Tryz.underlying20
 a20 := Tryz.isAgg20
 z20 := Tryz.sizeOf20
 v20 := Tryz.zeroValue20
 t21 := Tryz.underlying21
 a21 := Tryz.isAgg21
 z21 := Tryz.sizeOf21
 v21 := Tryz.zeroValue21
 t37 := Tryz.underlying39
 a37 := Tryz.isAgg39
 z37 := Tryz.sizeOf39
 v37 := Tryz.zeroValue39
 t46 := Tryz.underlying51
 a46 := Tryz.isAgg51
 z46 := Tryz.sizeOf51
 v46 := Tryz.zeroValue51
 t51 := Tryz.underlying180
 a51 := Tryz.isAgg180
 z51 := Tryz.sizeOf180
 v51 := Tryz.zeroValue180
 t53 := Tryz.underlying142
 a53 := Tryz.isAgg142
 z53 := Tryz.sizeOf142
 v53 := Tryz.zeroValue142
 t75 := Tryz.underlying43
 a75 := Tryz.isAgg43
 z75 := Tryz.sizeOf43
 v75 := Tryz.zeroValue43
 t76 := Tryz.underlying44
 a76 := Tryz.isAgg44
 z76 := Tryz.sizeOf44
 v76 := Tryz.zeroValue44
 t85 := Tryz.underlying149
 a85 := Tryz.isAgg149
 z85 := Tryz.sizeOf149
 v85 := Tryz.zeroValue149
 t127 := Tryz.underlying81
 a127 := Tryz.isAgg81
 z127 := Tryz.sizeOf81
 v127 := Tryz.zeroValue81
 t143 := Tryz.underlying217
 a143 := Tryz.isAgg217
 z143 := Tryz.sizeOf217
 v143 := Tryz.zeroValue217
 t145 := Tryz.underlying219
 a145 := Tryz.isAgg219
 z145 := Tryz.sizeOf219
 v145 := Tryz.zeroValue219
 t167 := Tryz.underlying148
 a167 := Tryz.isAgg148
 z167 := Tryz.sizeOf148
 v167 := Tryz.zeroValue148
 t168 := Tryz.underlying151
 a168 := Tryz.isAgg151
 z168 := Tryz.sizeOf151
 v168 := Tryz.zeroValue151
 t171 := Tryz.underlying141
 a171 := Tryz.isAgg141
 z171 := Tryz.sizeOf141
 v171 := Tryz.zeroValue141
 t173 := Tryz.underlying145
 a173 := Tryz.isAgg145
 z173 := Tryz.sizeOf145
 v173 := Tryz.zeroValue145
 t175 := Tryz.underlying183
 a175 := Tryz.isAgg183
 z175 := Tryz.sizeOf183
 v175 := Tryz.zeroValue183
 t210 := Tryz.underlying187
 a210 := Tryz.isAgg187
 z210 := Tryz.sizeOf187
 v210 := Tryz.zeroValue187
 t212 := Tryz.underlying179
 a212 := Tryz.isAgg179
 z212 := Tryz.sizeOf179
 v212 := Tryz.zeroValue179
 t213 := Tryz.underlying181
 a213 := Tryz.isAgg181
 z213 := Tryz.sizeOf181
 t232 := Tryz.underlying226
 a232 := Tryz.isAgg226
 z232 := Tryz.sizeOf226
 v232 := Tryz.zeroValue226
 t233 := Tryz.underlying227
 a233 := Tryz.isAgg227
 z233 := Tryz.sizeOf227
 v233 := Tryz.zeroValue227
 g15 := by kernel_rfl
 g16 := by kernel_rfl
 g17 := by kernel_rfl
 g18 := by kernel_rfl
 g19 := by kernel_rfl
 t80 := Tryz.underlying52
 a80 := Tryz.isAgg52
 z80 := Tryz.sizeOf52
 v80 := Tryz.zeroValue52
 i0 := by kernel_rfl
 i2 := by kernel_rfl
 i3 := by kernel_rfl
 i4 := by kernel_rfl
 i5 := by kernel_rfl
 i9 := by kernel_rfl
 i20 := by kernel_rfl
 i21 := by kernel_rfl
 i37 := by kernel_rfl
 i46 := by kernel_rfl
 i51 := by kernel_rfl
 i53 := by kernel_rfl
 i75 := by kernel_rfl
 i76 := by kernel_rfl
 i80 := by kernel_rfl
 i85 := by kernel_rfl
 i127 := by kernel_rfl
 i143 := by kernel_rfl
 i145 := by kernel_rfl
 i167 := by kernel_rfl
 i168 := by kernel_rfl
 i171 := by kernel_rfl
 i173 := by kernel_rfl
 i175 := by kernel_rfl
 i210 := by kernel_rfl
 i212 := by kernel_rfl
 i232 := by kernel_rfl
 i233 := by kernel_rfl
 m15 := by kernel_rfl
 m16 := by kernel_rfl
 m17 := by kernel_rfl
 m18 := by kernel_rfl
 m19 := by kernel_rfl
 c0 := by kernel_rfl
 c2 := by kernel_rfl
 c3 := by kernel_rfl
 c4 := by kernel_rfl
 c5 := by kernel_rfl
 c9 := by kernel_rfl
 c20 := by kernel_rfl
 c21 := by kernel_rfl
 c37 := by kernel_rfl
 c46 := by kernel_rfl
 c51 := by kernel_rfl
 c53 := by kernel_rfl
 c75 := by kernel_rfl
 c76 := by kernel_rfl
 c80 := by kernel_rfl
 c85 := by kernel_rfl
 c127 := by kernel_rfl
 c143 := by kernel_rfl
 c145 := by kernel_rfl
 c167 := by kernel_rfl
 c168 := by kernel_rfl
 c171 := by kernel_rfl
 c173 := by kernel_rfl
 c175 := by kernel_rfl
 c210 := by kernel_rfl
 c212 := by kernel_rfl
 c213 := by kernel_rfl
 c232 := by kernel_rfl
 c233 := by kernel_rfl }
def DI : Go.Shelf.Ren := ⟨fun | 166 => 9 | 240 => 22 | 276 => 40 | 169 => 12 | n => n, fun | 0 => 0 | 3 => 3 | 4 => 4 | 5 => 5 | 9 => 9 | 20 => 20 | 37 => 39 | 70 => 38 | 72 => 41 | 75 => 43 | 80 => 52 | 164 => 105 | 127 => 81 | n => n, fun | n => n⟩
theorem Nu : Go.Proofs.Lays.n166 Tryz.prog DI := {
 mixed := by kernel_rfl
 f166 := Tryz.func9.trans (congrArg some (by kernel_rfl))
 f240 := Tryz.func22.trans (congrArg some (by kernel_rfl))
 f276 := Tryz.func40.trans (congrArg some (by kernel_rfl))
 t0 := Tryz.underlying0
 a0 := Tryz.isAgg0
 z0 := Tryz.sizeOf0
 v0 := Tryz.zeroValue0
 t3 := Tryz.underlying3
 a3 := Tryz.isAgg3
 z3 := Tryz.sizeOf3
 v3 := Tryz.zeroValue3
 t4 := Tryz.underlying4
 a4 := Tryz.isAgg4
 z4 := Tryz.sizeOf4
 v4 := Tryz.zeroValue4
 t9 := Tryz.underlying9
 a9 := Tryz.isAgg9
 z9 := Tryz.sizeOf9
 v9 := Tryz.zeroValue9
 t20 := Tryz.underlying20
 a20 := Tryz.isAgg20
 z20 := Tryz.sizeOf20
 v20 := Tryz.zeroValue20
 t37 := Tryz.underlying39
 a37 := Tryz.isAgg39
 z37 := Tryz.sizeOf39
 v37 := Tryz.zeroValue39
 t70 := Tryz.underlying38
 a70 := Tryz.isAgg38
 z70 := Tryz.sizeOf38
 v70 := Tryz.zeroValue38
 t72 := Tryz.underlying41
 a72 := Tryz.isAgg41
 z72 := Tryz.sizeOf41
 v72 := Tryz.zeroValue41
 t75 := Tryz.underlying43
 a75 := Tryz.isAgg43
 z75 := Tryz.sizeOf43
 v75 := Tryz.zeroValue43
 t164 := Tryz.underlying105
 a164 := Tryz.isAgg105
 z164 := Tryz.sizeOf105
 v164 := Tryz.zeroValue105 }
theorem Br : Builder.Extra Tryz.prog DI where
 sizeBuilder := by kernel_rfl
 liesBuilder := by kernel_rfl
 t5 := Tryz.underlying5
 a5 := Tryz.isAgg5
 z5 := Tryz.sizeOf5
 v5 := Tryz.zeroValue5
 infoByte := by kernel_rfl
 cellsByte := by kernel_rfl
 sizeByte := by kernel_rfl
 neB5 := by decide
theorem Ft : Builder.Extra Tryz.prog GG where
 sizeBuilder := by kernel_rfl
 liesBuilder := by kernel_rfl
 t5 := Tryz.underlying5
 a5 := Tryz.isAgg5
 z5 := Tryz.sizeOf5
 v5 := Tryz.zeroValue5
 infoByte := by kernel_rfl
 cellsByte := by kernel_rfl
 sizeByte := by kernel_rfl
 neB5 := by decide
theorem Builder_String (B b : Nat) (l : List UInt8) (w : World) (h : Lib.IsBuilder 41 5 B b (Lib.byteCells l) w) (hBw : B ≤ w.heap.size) :
  Calls Tryz.prog 12 #[.pointer (some ⟨b, 0, none⟩)] w fun e w' => e = .returned (.string ⟨l.toArray⟩) ∧ Below B w w' := Any.Builder_String_any Rk Ft B b l w h hBw
theorem HW (N : Nat) (s cutset : List UInt8) (w0 : World) (r : List UInt8) (h : Ah N s cutset = some r) :
  Calls Tryz.prog 143 #[.string (bs s), .string (bs cutset)] w0 fun e w' => ∃ v, e = .returned v ∧ v = .string (bs r) ∧ Mem w0.heap.size w0 w' [] := by
 unfold Ah at h
 split at h
 ·rename_i hc
  cases h;obtain ⟨h1, h2, h3⟩ := hc;refine (Any.strings_Trim_laid Ri (by kernel_rfl) (bs s) (bs cutset) w0 (by rw [qJ]; exact h1) (by rw [qJ]; exact h2) (fun j b hb => ?_)).mono ?_
  ·exact of_decide_eq_true (List.all_eq_true.1 h3 b (List.mem_of_getElem? hb))
  ·rintro e w' ⟨rfl, hb⟩;exact ⟨_, rfl, rfl, Mem.QD hb⟩
 ·cases h
theorem CW (N : Nat) (s substr : List UInt8) (w0 : World) (r : Int) (h : tY N s substr = some r) :
  Calls Tryz.prog 144 #[.string (bs s), .string (bs substr)] w0 fun e w' => ∃ v, e = .returned v ∧ v = .int .i64 r ∧ Mem w0.heap.size w0 w' [] := by
 unfold tY at h
 split at h
 ·rename_i c
  cases h;refine (Any.strings_Count_one Rj (bs s) c w0).mono ?_;rintro e w' ⟨rfl, rfl⟩;exact ⟨_, rfl, rfl, Mem.start w'⟩
 ·cases h
section
variable {base : Nat} {W w : World} {L : List kU} {g c n : Nat} {A : Option Addr} {b d b2 : List UInt8}
theorem GH (M : Mem base W w (.Bv g 41 A n c :: L)) :
  Calls Tryz.prog 22 #[.pointer (some ⟨g, 0, none⟩)] w fun e w' => ∃ v, e = .returned v ∧ Mem base W w' (.blk g 41 [.pointer (some ⟨g, 0, none⟩), .slice A n c] :: L) := by
 obtain ⟨p, hp, hb⟩ := M.has 0 _ rfl;have hb' : w.heap[g]? = some (.cells #[.pointer p, .slice A n c] 41 (0, 0)) := hb;have M1 : Mem base W w (.blk g 41 [.pointer p, .slice A n c] :: L) := M.swap 0 rfl hb rfl
 rcases hp with rfl | rfl
 ·refine (Any.Builder_copyCheck_fresh { Nu with } Br.toX72 g w (M1.cell (i := 0) rfl (k := 0) rfl) (by simp [World.shape?, hb', DI]) (by simp [World.frozen?, hb'])).mono ?_;rintro e w' ⟨rfl, rfl⟩;exact ⟨_, rfl, M1.set 0 rfl 0 _⟩
 ·refine (Any.Builder_copyCheck_used { Nu with } Br.toX72 g w (M1.cell (i := 0) rfl (k := 0) rfl)).mono ?_;rintro e w' ⟨rfl, rfl⟩;exact ⟨_, rfl, M1⟩
theorem o8 (M : Mem base W w (.Bv g 41 A b.length c :: .row 5 1 A b.length c ((cI .u8).all (nZ b)) :: L)) (h : LV b d = some b2) :
  Calls Tryz.prog 9 #[.pointer (some ⟨g, 0, none⟩), .string (bs d)] w fun e w' => ∃ v, e = .returned v ∧ ∃ A' c', Mem base W w' (.Bv g 41 A' b2.length c' :: .row 5 1 A' b2.length c' ((cI .u8).all (nZ b2)) :: L) := by
 obtain ⟨rfl, hl⟩ := ON h
 have happ : app 1 (nZ b) (nZ d) = some (nZ b ++ nZ d) := by
  unfold app;rw [if_pos (by rw [vX, vX]; omega)]
 replace M : Mem base W w (.Bv g 41 A (nZ b).length c :: .row 5 1 A (nZ b).length c ((cI .u8).all (nZ b)) :: L) := by rw [vX]; exact M
 refine aT Tryz.func9 rfl Tryz.ntmps9 rfl ?_;intro a K;have K : Kn a 19 [(0, .pointer (some ⟨g, 0, none⟩)), (1, .string (bs d))] := K;refine wp_seq (aB ?_);refine Oi K M ?_; clear K;refine Qj M ?_; intro a K;refine wpList_nil (aA (wp_seq (aB ?_)));refine Oi K M ?_; clear K; intro a K;refine a8 K (dS (vs := [.pointer (some ⟨g, 0, none⟩)]) (cap := []) rfl RR K rfl rfl (GH M)) ?_;clear K M; rintro _ a w M K;refine wpList_nil (aA (wp_seq (aB ?_)));refine Oi K M ?_; clear K;refine Qj M ?_;refine Qj M ?_;refine bJ (fun _ K => aI rfl (show mM Tryz.prog 41 1 = some 1 by kernel_rfl) K rfl) M ?_;refine bJ (fun _ K => aL rfl IA K rfl (d8 0 rfl) rfl) M ?_;refine Qj M ?_; intro a K;refine a8 K (Ng rfl wH pO ZD K rfl rfl 1 M rfl happ) ?_;clear K M; rintro _ a w ⟨A', c', rfl, M⟩ K;refine Oi K M ?_; clear K;refine bJ (fun _ K => aI rfl (show mM Tryz.prog 41 1 = some 1 by kernel_rfl) K rfl) M ?_; intro a K;refine dW K (aR rfl IA K rfl rfl rfl 0 M rfl rfl) ?_;clear K M; rintro _ a w M K;refine wpList_nil (aA (wp_seq (aB ?_)));refine Oi K M ?_; clear K;refine bJ (fun _ K => jW rfl pO K rfl) M ?_;refine Qj M ?_;refine Qj M ?_; intro a K;refine wpList_nil (aA (wp_ret ?_));replace M : Mem base W w (.blk g 41 [.pointer (some ⟨g, 0, none⟩), .slice A' (nZ b ++ nZ d).length c'] :: .row 5 1 A' (nZ b ++ nZ d).length c' ((cI .u8).all (nZ b ++ nZ d)) :: L) := M;have M2 : Mem base W w (.Bv g 41 A' (nZ b ++ nZ d).length c' :: .row 5 1 A' (nZ b ++ nZ d).length c' ((cI .u8).all (nZ b ++ nZ d)) :: L) := M.RP 0 rfl;have e : (nZ b ++ nZ d) = nZ (b ++ d) := (List.map_append ..).symm;rw [e, vX] at M2;exact dI K rfl (aD K rfl) (aD K rfl) ⟨_, rfl, A', c', M2⟩
theorem CN (M : Mem base W w (.Bv g 41 A b.length c :: .row 5 1 A b.length c ((cI .u8).all (nZ b)) :: L)) {y : Int} (h : QG b y = some b2) :
  Calls Tryz.prog 11 #[.pointer (some ⟨g, 0, none⟩), .int .u8 y] w fun e w' => ∃ v, e = .returned v ∧ ∃ A' c', Mem base W w' (.Bv g 41 A' b2.length c' :: .row 5 1 A' b2.length c' ((cI .u8).all (nZ b2)) :: L) := by
 obtain ⟨rfl, hl, hy0, hy1⟩ := OO h
 have happ : app 1 (nZ b) [y] = some (nZ b ++ [y]) := by
  unfold app;rw [if_pos (by rw [vX]; simp; omega)]
 replace M : Mem base W w (.Bv g 41 A (nZ b).length c :: .row 5 1 A (nZ b).length c ((cI .u8).all (nZ b)) :: L) := by rw [vX]; exact M
 refine aT Tryz.func11 rfl Tryz.ntmps11 rfl ?_;intro a K;have K : Kn a 17 [(0, .pointer (some ⟨g, 0, none⟩)), (1, .int .u8 y)] := K;refine wp_seq (aB ?_);refine Oi K M ?_; clear K; intro a K;refine wpList_nil (aA (wp_seq (aB ?_)));refine Oi K M ?_; clear K; intro a K;refine a8 K (dS (vs := [.pointer (some ⟨g, 0, none⟩)]) (cap := []) rfl RR K rfl rfl (GH M)) ?_;clear K M; rintro _ a w M K;refine wpList_nil (aA (wp_seq (aB ?_)));refine Oi K M ?_; clear K;refine Qj M ?_;refine Qj M ?_;refine bJ (fun _ K => aI rfl (show mM Tryz.prog 41 1 = some 1 by kernel_rfl) K rfl) M ?_;refine bJ (fun _ K => aL rfl IA K rfl (d8 0 rfl) rfl) M ?_;refine Qj M ?_; intro a K;refine a8 K (dL rfl wH z5 K (vs := [(0, .int .u8 y)]) (cs := [.int .u8 y]) rfl (by kernel_rfl) rfl rfl M) ?_;clear K M; rintro _ a w ⟨gs, rfl, M⟩ K;replace M := M.jM 0 rfl (cI .u8) ([y] : List Int) (n := 1) rfl rfl rfl;refine a8 K (j3 (C := (cI .u8)) (xs := nZ b) (ys := ([y] : List Int)) rfl wH rfl z5 rfl rfl K rfl rfl 2 M rfl ((g8 (C := (cI .u8)) 0 rfl rfl) _ M) happ) ?_;clear K M; rintro _ a w ⟨A', c', rfl, M⟩ K;refine Oi K M ?_; clear K;refine bJ (fun _ K => aI rfl (show mM Tryz.prog 41 1 = some 1 by kernel_rfl) K rfl) M ?_; intro a K;refine dW K (aR rfl IA K rfl rfl rfl 1 M rfl rfl) ?_;clear K M; rintro _ a w M K;refine wpList_nil (aA (wp_seq (aB ?_)));refine Oi K M ?_; clear K; intro a K;refine wpList_nil (aA (wp_ret ?_));replace M : Mem base W w (.blk g 41 [.pointer (some ⟨g, 0, none⟩), .slice A' (nZ b ++ [y]).length c'] :: .row 5 1 A' (nZ b ++ [y]).length c' ((cI .u8).all (nZ b ++ [y])) :: L) := M.tail;have M2 : Mem base W w (.Bv g 41 A' (nZ b ++ [y]).length c' :: .row 5 1 A' (nZ b ++ [y]).length c' ((cI .u8).all (nZ b ++ [y])) :: L) := M.RP 0 rfl
 have e : (nZ b ++ [y]) = nZ (b ++ [UInt8.ofNat y.toNat]) := by
  unfold nZ;rw [List.map_append]
  congr 1
  show [y] = [(((UInt8.ofNat y.toNat).toNat : Nat) : Int)];rw [UInt8.toNat_ofNat']
  congr 1
  omega
 rw [e, vX] at M2;exact cD K rfl (aD K rfl) ⟨_, rfl, A', c', M2⟩
theorem zY (M : Mem W.heap.size W w (.Bv g 41 A b.length c :: .row 5 1 A b.length c ((cI .u8).all (nZ b)) :: L)) :
  Calls Tryz.prog 12 #[.pointer (some ⟨g, 0, none⟩)] w fun e w' => ∃ v, e = .returned v ∧ v = .string (bs b) ∧ Mem W.heap.size W w' [] := by
 refine (Builder_String W.heap.size g b w M.builder M.sz).mono ?_;rintro e w' ⟨rfl, h2⟩;exact ⟨_, rfl, rfl, Mem.QD (M.low.trans h2)⟩
end
end
section
open Go.RowKit
theorem Eo {N : Nat} {n : Int} {w0 : World} {r : Bool} (h : xO N n = some r) :
  Calls Tryz.prog 91 #[I n] w0 fun e w' => ∃ v, e = .returned v ∧ v = .bool r ∧ Mem w0.heap.size w0 w' [] := by
 refine aT Tryz.func91 rfl Tryz.ntmps91 rfl ?_;intro a K;have M := Mem.start w0;have K : Kn a 9 [(0, _)] := K;unfold xO at h;refine wp_seq (aB ?_);refine aS K M ?_; clear K; intro a K;refine aG (aA (wp_seq (aB ?_)));refine eX K M ?_; clear K; intro a K
 rcases kZ (decide (1 ≤ n)) with hb | hb
 ·have h := cP hb h;have K := K.eW (s := 5) rfl hb;refine iJ K M ?_; clear K; intro a K;refine aG (aA (wp_ret ?_));cases h;exact cD K rfl (aD K rfl) ⟨_, rfl, rfl, M.pick [] aJ⟩
 have h := a7 hb h;have K := K.eW (s := 5) rfl hb;refine iJ K M ?_; clear K; intro a K;refine aG (aA (wp_ret ?_));cases h;exact cD K rfl (aD K rfl) ⟨_, rfl, rfl, M.pick [] aJ⟩
theorem Lq {N : Nat} {d : List Int} {Jh : Option Addr} {Ji : Nat} {o : Int} {w0 : World} {r : List UInt8 × Int} (h : Ds N d o = some r) (Ep : SL w0 (cI .i64) Jh d) (Uu : d.length ≤ Ji) :
  Calls Tryz.prog 54 #[.slice Jh d.length Ji, I o] w0 fun e w' => ∃ v, e = .returned v ∧ v = .tuple #[.string (bs r.1), I r.2] ∧ Mem w0.heap.size w0 w' [] := by
 refine aT Tryz.func54 rfl Tryz.ntmps54 rfl ?_;intro a K;have M := Mem.start w0;have K : Kn a 75 [(0, _), (1, _)] := K;unfold Ds at h;refine wp_seq (aB ?_);refine bD K M ?_; clear K; intro a K;refine aG (aA (wp_seq (wp_seq (aB ?_))));refine aS K M ?_; clear K; intro a K;obtain ⟨r2, eE, h⟩ := aE h;refine a8 K (fR Sa K (Eo eE)) ?_;clear K; rintro _ a w ⟨rfl, Zq⟩ K;replace M := M.call Zq; clear Zq;refine aS K M ?_; clear K; intro a K;refine aG (aA ?_);refine eC K rfl h ?_ ?_
 ·intro hb h;refine wp_seq (aB ?_);refine bD K M ?_; clear K; intro a K;refine aG (aA (wp_ret (aH ?_)));cases h;exact dI K rfl (aD K rfl) (aD K rfl) ⟨_, rfl, rfl, M.pick [] aJ⟩
 intro hb h;refine wp_skip (aA (wp_seq (wp_seq (aB ?_))));refine eX K M ?_; clear K; intro a K;refine aG (aA ?_);refine eC K rfl h ?_ ?_
 ·intro hb h;refine wp_seq (aB ?_);refine bD K M ?_; clear K; intro a K;refine aG (aA (wp_ret (aH ?_)));cases h;exact dI K rfl (aD K rfl) (aD K rfl) ⟨_, rfl, rfl, M.pick [] aJ⟩
 intro hb h;refine wp_skip (aA (wp_seq (aB ?_)));refine qN K M ?_; clear K;refine bJ (fun _ K => jY rfl K rfl rfl aJ) M ?_; intro a K;obtain ⟨_, h0, h⟩ := aE h;have h0 := Oz h0;refine a8 K (OE (C := (cI .u8)) rfl wH rfl (by rw [z5]; rfl) rfl K rfl rfl M h0) ?_;clear K M; rintro _ a w ⟨A, c, rfl, M⟩ K;refine aS K M ?_; clear K; intro a K;refine aG (aA (wp_seq (aB ?_)));refine bD K M ?_; clear K; intro a K;refine aG (aA (wp_seq (wp_seq (aB ?_))));refine eX K M ?_; clear K; intro a K;refine aG (aA (wp_block ?_));refine jB (id := 0) (Rel := fun (⟨l2, i, i2, i3⟩ : List Int × Int × Int × Int) a w => ∃ (A2 : Option Addr) (c2 : Nat), Kn a 75 [(1, I o), (6, .slice A2 l2.length c2), (7, I i), (8, I i2), (24, .slice Jh d.length Ji), (25, I (d.length : Int)), (26, I i3)] ∧ Mem w0.heap.size w0 w [.row 5 1 A2 l2.length c2 ((cI .u8).all l2)]) h (fun _ _ => rfl) ⟨A, c, K.pick [1,6,7,8,24,25,26], M.pick [0] aJ⟩ ?_ ?_
 ·clear K M h;rintro ⟨l9, i7, i8, i9⟩ a w ⟨A9, c9, K, M⟩ h;try dsimp only at h
  refine eQ ?_;refine aA (wp_seq (wp_seq (aB ?_)));refine bD K M ?_; clear K; intro a K;refine aG (aA ?_);refine eC K rfl h ?_ ?_
  ·intro hb h;refine aB ?_;refine iJ K M ?_; clear K; intro a K;obtain ⟨_, h0, h⟩ := aE h;have h0 := nS h0;refine eP K (pR rfl K rfl rfl h0) M ?_; clear K;refine bJ (fun _ K => eT rfl rfl Is K rfl) M ?_; intro a K;refine a8 K (dL rfl wH z5 K (vs := [(0, .int .u8 (IntKind.u8.wrap (nY .i64 i7 (IntKind.i64.wrap (8 - i8)))))]) (cs := [.int .u8 (IntKind.u8.wrap (nY .i64 i7 (IntKind.i64.wrap (8 - i8))))]) rfl aO rfl rfl M) ?_;have M0 := M; clear K M; rintro _ a w ⟨Wr, rfl, M⟩ K;replace M := M.jM 0 rfl (cI .u8) ([IntKind.u8.wrap (nY .i64 i7 (IntKind.i64.wrap (8 - i8)))] : List Int) (n := 1) rfl rfl rfl;clear M0;obtain ⟨l10, Lr, h⟩ := aE h;refine a8 K (j3 (C := (cI .u8)) (xs := l9) (ys := ([IntKind.u8.wrap (nY .i64 i7 (IntKind.i64.wrap (8 - i8)))] : List Int)) rfl wH rfl z5 rfl rfl K rfl rfl 1 M rfl ((g8 (C := (cI .u8)) 0 rfl rfl) _ M) Lr) ?_;clear K M; rintro _ a w ⟨HY, c10, rfl, M⟩ K;refine aS K M ?_; clear K; intro a K;refine aG (aA (wp_seq (aB ?_)));refine aS K M ?_; clear K;refine bJ (fun _ K => Ce rfl wH Is pO K rfl (g8 (C := (cI .u8)) 1 rfl rfl)) M ?_;refine qL M ?_; intro a K;refine aG (aA (wp_ret ?_));cases h;exact dI K rfl (aD K rfl) (aD K rfl) ⟨_, rfl, rfl, M.pick [] aJ⟩
  intro hb h;refine wp_skip (aA (wp_seq (aB ?_)));refine aS K M ?_; clear K;refine bJ (fun _ K => Ce rfl wH Is pO K rfl (g8 (C := (cI .u8)) 0 rfl rfl)) M ?_;refine qL M ?_; intro a K;refine aG (aA (wp_ret ?_));cases h;exact dI K rfl (aD K rfl) (aD K rfl) ⟨_, rfl, rfl, M.pick [] aJ⟩
 clear K M h;rintro kk fuel ⟨l2, i, i2, i3⟩ a w hk1 ⟨A2, c2, K, M⟩ h;unfold AB at h;refine wp_seq (aB ?_);refine aS K M ?_; clear K; intro a K;refine aG (aA (wp_seq ?_));refine eC K rfl h ?_ ?_
 ·intro hb h;refine wp_skip (aA (wp_seq (wp_block (wp_seq (aB ?_)))));obtain ⟨e2, kK, h⟩ := aE h;refine eP K (iD rfl f6 K rfl rfl (eB Ep) kK) M ?_; clear K;refine bJ (fun _ K => gV rfl eJ K rfl rfl (eB Ep) kK rfl) M ?_;refine gR M ?_; intro a K;refine aG (aA (wp_seq (wp_seq (aB ?_))));refine eX K M ?_; clear K; intro a K
  rcases kZ (decide (e2 < 0)) with hb | hb
  ·have h := cP hb h;have K := K.eW (s := 32) rfl hb;refine qN K M ?_; clear K; intro a K;refine aG (aA ?_);refine aY K rfl ?_;refine wp_seq (aB ?_);refine bD K M ?_; clear K; intro a K;refine aG (aA (wp_ret (aH (dH (aH (aH (dH (aH ?_))))))));cases h;exact dI K rfl (aD K rfl) (aD K rfl) ⟨_, rfl, rfl, M.pick [] aJ⟩
  have h := a7 hb h;have K := K.eW (s := 32) rfl hb;refine bD K M ?_; clear K; intro a K;obtain ⟨_, h0, h⟩ := aE h;have h0 := nS h0;refine eP K (pR rfl K rfl rfl h0) M ?_; clear K;refine qL M ?_; intro a K;refine aG (aA ?_);refine eC K rfl h ?_ ?_
  ·intro hb h;refine wp_seq (aB ?_);refine bD K M ?_; clear K; intro a K;refine aG (aA (wp_ret (aH (dH (aH (aH (dH (aH ?_))))))));cases h;exact dI K rfl (aD K rfl) (aD K rfl) ⟨_, rfl, rfl, M.pick [] aJ⟩
  intro hb h;refine wp_skip (aA (wp_seq (aB ?_)));refine bD K M ?_; clear K; intro a K;obtain ⟨_, h0, h⟩ := aE h;have h0 := nS h0;refine eP K (pR rfl K rfl rfl h0) M ?_; clear K;refine gR M ?_;refine bJ (fun _ K => Fe rfl K rfl rfl) M ?_;refine Gs M ?_;obtain ⟨x6, hx, h⟩ := jS h;refine bJ (fun _ K => qW hx (bC rfl K rfl)) M ?_;obtain ⟨x7, hx, h⟩ := jS h;refine bJ (fun _ K => qW hx (bC rfl K rfl)) M ?_; intro a K;refine aG (aA (wp_seq (wp_block ?_)));refine jB (id := 2) (Rel := fun (⟨l5, i5⟩ : List Int × Int) a w => ∃ (A5 : Option Addr) (c5 : Nat), Kn a 75 [(1, I o), (6, .slice A5 l5.length c5), (7, I x6), (8, I i5), (24, .slice Jh d.length Ji), (25, I (d.length : Int)), (26, I i3), (33, I e2), (34, I o), (35, I (nY .i64 1 o)), (36, .bool (decide ((nY .i64 1 o) ≤ e2)))] ∧ Mem w0.heap.size w0 w [.row 5 1 A5 l5.length c5 ((cI .u8).all l5)]) h (fun _ _ => rfl) ⟨A2, c2, K.pick [1,6,7,8,24,25,26,33,34,35,36], M.pick [0] aJ⟩ ?_ ?_
  ·clear K M h;rintro ⟨l8, i6⟩ a w ⟨A8, c8, K, M⟩ h;try dsimp only at h
   refine eQ ?_;refine aA (aB ?_);refine bD K M ?_; clear K; intro a K;obtain ⟨_, h0, h⟩ := aE h;have h0 := nS h0;refine eP K (pR rfl K rfl rfl h0) M ?_; clear K;refine qL M ?_;obtain ⟨x10, hx, h⟩ := jS h;refine bJ (fun _ K => qW hx (bC rfl K rfl)) M ?_; intro a K;refine aG (a6 (aA (aB ?_)));refine bD K M ?_; clear K; intro a K;refine aG ?_;exact aA ⟨(l8, x10, i6, IntKind.i64.wrap (i3 + 1)), ⟨A8, c8, K.pick [1,6,7,8,24,25,26], M.pick [0] aJ⟩, h⟩
  clear K M h;rintro kk fuel ⟨l5, i5⟩ a w hk2 ⟨A5, c5, K, M⟩ h;unfold AA at h;refine wp_seq (wp_seq (aB ?_));refine bD K M ?_; clear K; intro a K;refine aG (aA ?_);refine eC K rfl h ?_ ?_
  ·intro hb h;refine wp_skip (aA (wp_block (wp_seq (aB ?_))));refine bD K M ?_; clear K;obtain ⟨x9, hx, h⟩ := jS h;refine bJ (fun _ K => qW hx (bC rfl K rfl)) M ?_; intro a K;refine aG (aA (aB ?_));refine eX K M ?_; clear K; intro a K;obtain ⟨_, h0, h⟩ := aE h;have h0 := nS h0;refine eP K (nG rfl K rfl rfl h0) M ?_; clear K;refine bJ (fun _ K => eT rfl rfl Is K rfl) M ?_; intro a K;refine a8 K (dL rfl wH z5 K (vs := [(0, .int .u8 (IntKind.u8.wrap (jR .i64 x6 x9)))]) (cs := [.int .u8 (IntKind.u8.wrap (jR .i64 x6 x9))]) rfl aO rfl rfl M) ?_;have M0 := M; clear K M; rintro _ a w ⟨Ro, rfl, M⟩ K;replace M := M.jM 0 rfl (cI .u8) ([IntKind.u8.wrap (jR .i64 x6 x9)] : List Int) (n := 1) rfl rfl rfl;clear M0;obtain ⟨l7, uZ, h⟩ := aE h;refine a8 K (j3 (C := (cI .u8)) (xs := l5) (ys := ([IntKind.u8.wrap (jR .i64 x6 x9)] : List Int)) rfl wH rfl z5 rfl rfl K rfl rfl 1 M rfl ((g8 (C := (cI .u8)) 0 rfl rfl) _ M) uZ) ?_;clear K M; rintro _ a w ⟨A7, c7, rfl, M⟩ K;refine aS K M ?_; clear K; intro a K;refine aG (a6 ?_);exact aA ⟨(l7, x9), ⟨A7, c7, K.pick [1,6,7,8,24,25,26,33,34,35,36], M.pick [1] aJ⟩, h⟩
  intro hb h;refine wp_exit ?_;refine aU ?_;exact aU (hk2 (l5, i5) _ _ ⟨A5, c5, K.pick [1,6,7,8,24,25,26,33,34,35,36], M.pick [0] aJ⟩ h)
 intro hb h;refine wp_exit ?_;refine aU ?_;exact aU (hk1 (l2, i, i2, i3) _ _ ⟨A2, c2, K.pick [1,6,7,8,24,25,26], M.pick [0] aJ⟩ h)
theorem Er {N : Nat} {n size : Int} {w0 : World} {r : List UInt8} (h : xP N n size = some r) :
  Calls Tryz.prog 123 #[I n, I size] w0 fun e w' => ∃ v, e = .returned v ∧ v = .string (bs r) ∧ Mem w0.heap.size w0 w' [] := by
 refine aT Tryz.func123 rfl Tryz.ntmps123 rfl ?_;intro a K;have M := Mem.start w0;have K : Kn a 28 [(0, _), (1, _)] := K;unfold xP at h;refine wp_seq (aB ?_);refine aS K M ?_; clear K; intro a K;refine aG (aA (wp_seq (aB ?_)));refine aS K M ?_; clear K; intro a K;obtain ⟨l2, sT, h⟩ := aE h;refine a8 K (mW (C := (cI .u8)) (z := 0) rfl wH rfl z5 rfl K rfl rfl M sT) ?_;clear K M; rintro _ a w ⟨A, c, rfl, M⟩ K;refine aS K M ?_; clear K; intro a K;refine aG (aA (wp_seq (wp_seq (aB ?_))));refine eX K M ?_; clear K; intro a K;refine aG (aA (wp_block ?_));refine jB (id := 0) (Rel := fun (⟨l3, i, i2⟩ : List Int × Int × Int) a w => Kn a 28 [(0, I n), (1, I size), (5, .slice A l3.length c), (10, I i), (11, I i2)] ∧ Mem w0.heap.size w0 w [.row 5 1 A l3.length c ((cI .u8).all l3)]) h (fun _ _ => rfl) ⟨K.pick [0,1,5,10,11], M.pick [0] aJ⟩ ?_ ?_
 ·clear K M h;rintro ⟨l6, i3, i4⟩ a w ⟨K, M⟩ h;try dsimp only at h
  refine eQ ?_;refine aA (wp_seq (aB ?_));refine aS K M ?_; clear K;refine bJ (fun _ K => Ce rfl wH Is pO K rfl (g8 (C := (cI .u8)) 0 rfl rfl)) M ?_;refine gR M ?_; intro a K;refine aG (aA (wp_ret ?_));cases h;exact cD K rfl (aD K rfl) ⟨_, rfl, rfl, M.pick [] aJ⟩
 clear K M h;rintro kk fuel ⟨l3, i, i2⟩ a w hk1 ⟨K, M⟩ h;unfold wN at h;refine wp_seq (aB ?_);refine aS K M ?_; clear K; intro a K;refine aG (aA (wp_seq ?_));refine eC K rfl h ?_ ?_
 ·intro hb h;refine wp_skip (aA (wp_seq (wp_block (wp_seq (aB ?_)))));refine bD K M ?_; clear K; intro a K;refine aG (aA (aB ?_));refine IC K M ?_; clear K; intro a K;obtain ⟨_, h0, h⟩ := aE h;have h0 := nS h0;refine eP K (nG rfl K rfl rfl h0) M ?_; clear K;refine gR M ?_;obtain ⟨b2, PJ, h⟩ := aE h;refine bJ (fun _ K => p7 rfl pO K rfl rfl PJ) M ?_;obtain ⟨e2, kK, h⟩ := aE h;refine bJ (fun _ K => iD rfl wH K rfl rfl (g8 (C := (cI .u8)) 0 rfl rfl) kK) M ?_; intro a K;obtain ⟨l5, u1, h⟩ := aE h;refine dW K (gM (el := (b2.toNat : Int)) rfl ZE rfl rfl K rfl rfl rfl 0 M rfl u1) ?_;have M0 := M; clear K M; rintro _ a w M K;have hl := iF u1;try rw [hl] at M
  try rw [hl] at K
  clear hl;clear M0;refine aG (a6 (aA (aB ?_)));refine bD K M ?_; clear K; intro a K;refine aG ?_;exact aA ⟨(l5, i, IntKind.i64.wrap (i2 + 1)), ⟨K.pick [0,1,5,10,11], M.pick [0] aJ⟩, h⟩
 intro hb h;refine wp_exit ?_;refine aU ?_;exact aU (hk1 (l3, i, i2) _ _ ⟨K.pick [0,1,5,10,11], M.pick [0] aJ⟩ h)
theorem tU {N : Nat} {n size : Int} {w0 : World} {r : List UInt8 × Int} (h : pF N n size = some r) :
  Calls Tryz.prog 96 #[I n, I size] w0 fun e w' => ∃ v, e = .returned v ∧ v = .tuple #[.string (bs r.1), I r.2] ∧ Mem w0.heap.size w0 w' [] := by
 refine aT Tryz.func96 rfl Tryz.ntmps96 rfl ?_;intro a K;have M := Mem.start w0;have K : Kn a 25 [(0, _), (1, _)] := K;unfold pF at h;refine wp_seq (aB ?_);refine bD K M ?_; clear K; intro a K;refine aG (aA (wp_seq (wp_seq (aB ?_))));refine eX K M ?_; clear K; intro a K
 rcases kZ (decide (size < 0)) with hb | hb
 ·have h := cP hb h;have K := K.eW (s := 8) rfl hb;refine pP K M ?_; clear K; refine Li M ?_; intro a K;refine aG (aA ?_);refine aY K rfl ?_;refine wp_seq (aB ?_);refine bD K M ?_; clear K; intro a K;refine aG (aA (wp_ret (aH ?_)));cases h;exact dI K rfl (aD K rfl) (aD K rfl) ⟨_, rfl, rfl, M.pick [] aJ⟩
 have h := a7 hb h;have K := K.eW (s := 8) rfl hb;refine iJ K M ?_; clear K; intro a K
 rcases kZ (decide (16 < size)) with hb | hb
 ·have h := cP hb h;have K := K.eW (s := 12) rfl hb;refine pP K M ?_; clear K; refine gR M ?_; intro a K;refine aG (aA ?_);refine aY K rfl ?_;refine wp_seq (aB ?_);refine bD K M ?_; clear K; intro a K;refine aG (aA (wp_ret (aH ?_)));cases h;exact dI K rfl (aD K rfl) (aD K rfl) ⟨_, rfl, rfl, M.pick [] aJ⟩
 have h := a7 hb h;have K := K.eW (s := 12) rfl hb;refine iJ K M ?_; clear K; intro a K
 rcases kZ (decide (n < 0)) with hb | hb
 ·have h := cP hb h;have K := K.eW (s := 16) rfl hb;refine qN K M ?_; clear K; intro a K;refine aG (aA ?_);refine aY K rfl ?_;refine wp_seq (aB ?_);refine bD K M ?_; clear K; intro a K;refine aG (aA (wp_ret (aH ?_)));cases h;exact dI K rfl (aD K rfl) (aD K rfl) ⟨_, rfl, rfl, M.pick [] aJ⟩
 have h := a7 hb h;have K := K.eW (s := 16) rfl hb;refine bD K M ?_; clear K; intro a K;obtain ⟨_, h0, h⟩ := aE h;have h0 := nS h0;refine eP K (pR rfl K rfl rfl h0) M ?_; clear K;refine qL M ?_; intro a K;refine aG (aA ?_);refine eC K rfl h ?_ ?_
 ·intro hb h;refine wp_seq (aB ?_);refine bD K M ?_; clear K; intro a K;refine aG (aA (wp_ret (aH ?_)));cases h;exact dI K rfl (aD K rfl) (aD K rfl) ⟨_, rfl, rfl, M.pick [] aJ⟩
 intro hb h;refine wp_skip (aA (wp_seq (aB ?_)));refine bD K M ?_; clear K; intro a K;obtain ⟨r2, eE, h⟩ := aE h;refine a8 K (fR Pu K (Er eE)) ?_;clear K; rintro _ a w ⟨rfl, Zq⟩ K;replace M := M.call Zq; clear Zq;refine bD K M ?_; clear K; intro a K;refine aG (aA (wp_ret ?_));cases h;exact dI K rfl (aD K rfl) (aD K rfl) ⟨_, rfl, rfl, M.pick [] aJ⟩
theorem HZ {N : Nat} {b : List UInt8} {w0 : World} {r : Bool} (h : CC N b = some r) :
  Calls Tryz.prog 124 #[.string (bs b)] w0 fun e w' => ∃ v, e = .returned v ∧ v = .bool r ∧ Mem w0.heap.size w0 w' [] := by
 refine aT Tryz.func124 rfl Tryz.ntmps124 rfl ?_;intro a K;have M := Mem.start w0;have K : Kn a 16 [(0, _)] := K;unfold CC at h;refine wp_seq (aB ?_);refine aS K M ?_; clear K; intro a K;refine aG (aA (wp_seq (aB ?_)));refine aS K M ?_; clear K; intro a K;obtain ⟨r2, eE, h⟩ := aE h;refine a8 K (dS (vs := [.string (bs b), .string (bs ([48, 49] : List UInt8))]) (cap := []) rfl T6 K rfl rfl (HW N b ([48, 49] : List UInt8) _  r2 eE)) ?_;clear K; rintro _ a w ⟨rfl, Zq⟩ K;replace M := M.call Zq; clear Zq;refine eP K (zU rfl K rfl rfl) M ?_; clear K;refine gR M ?_; intro a K
 rcases kZ (decide (r2 = ([] : List UInt8))) with hb | hb
 ·have h := cP hb h;have K := K.eW (s := 6) rfl hb;refine aS K M ?_; clear K; intro a K;obtain ⟨r3, jI, h⟩ := aE h;refine a8 K (dS (vs := [.string (bs b), .string (bs ([48] : List UInt8))]) (cap := []) rfl PB K rfl rfl (CW N b ([48] : List UInt8) _  r3 jI)) ?_;clear K; rintro _ a w ⟨rfl, Zq⟩ K;replace M := M.call Zq; clear Zq;refine aS K M ?_; clear K; intro a K;obtain ⟨r4, oD, h⟩ := aE h;refine a8 K (dS (vs := [.string (bs b), .string (bs ([49] : List UInt8))]) (cap := []) rfl PB K rfl rfl (CW N b ([49] : List UInt8) _  r4 oD)) ?_;clear K; rintro _ a w ⟨rfl, Zq⟩ K;replace M := M.call Zq; clear Zq;refine bD K M ?_; clear K;refine bJ (fun _ K => jW rfl pO K rfl) M ?_;refine Gs M ?_; intro a K;refine aG (aA (wp_ret ?_));cases h;exact cD K rfl (aD K rfl) ⟨_, rfl, rfl, M.pick [] aJ⟩
 have h := a7 hb h;have K := K.eW (s := 6) rfl hb;refine pP K M ?_; clear K; refine qL M ?_; intro a K;refine aG (aA (wp_ret ?_));cases h;exact cD K rfl (aD K rfl) ⟨_, rfl, rfl, M.pick [] aJ⟩
theorem Fu {N : Nat} {b : List UInt8} {w0 : World} {r : List UInt8 × Int} (h : zR N b = some r) :
  Calls Tryz.prog 97 #[.string (bs b)] w0 fun e w' => ∃ v, e = .returned v ∧ v = .tuple #[.string (bs r.1), I r.2] ∧ Mem w0.heap.size w0 w' [] := by
 refine aT Tryz.func97 rfl Tryz.ntmps97 rfl ?_;intro a K;have M := Mem.start w0;have K : Kn a 37 [(0, _)] := K;unfold zR at h;refine wp_seq (aB ?_);refine bD K M ?_; clear K; intro a K;refine aG (aA (wp_seq (wp_seq (aB ?_))));refine aS K M ?_; clear K; intro a K;obtain ⟨r2, eE, h⟩ := aE h;refine a8 K (fR Pv K (HZ eE)) ?_;clear K; rintro _ a w ⟨rfl, Zq⟩ K;replace M := M.call Zq; clear Zq;refine aS K M ?_; clear K; intro a K;refine aG (aA ?_);refine eC K rfl h ?_ ?_
 ·intro hb h;refine wp_seq (aB ?_);refine bD K M ?_; clear K; intro a K;refine aG (aA (wp_ret (aH ?_)));cases h;exact dI K rfl (aD K rfl) (aD K rfl) ⟨_, rfl, rfl, M.pick [] aJ⟩
 intro hb h;refine wp_skip (aA (wp_seq (aB ?_)));refine aS K M ?_; clear K;refine bJ (fun _ K => jW rfl pO K rfl) M ?_;refine gR M ?_;obtain ⟨x2, hx, h⟩ := jS h;refine bJ (fun _ K => qW hx (jY rfl K rfl rfl aJ)) M ?_; intro a K;obtain ⟨l2, sT, h⟩ := aE h;refine a8 K (mW (C := (cI .u8)) (z := 0) rfl wH rfl z5 rfl K rfl rfl M sT) ?_;clear K M; rintro _ a w ⟨A, c, rfl, M⟩ K;refine aS K M ?_; clear K; intro a K;refine aG (aA (wp_seq (wp_seq (aB ?_))));refine aS K M ?_; clear K;refine bJ (fun _ K => jW rfl pO K rfl) M ?_;refine gR M ?_; intro a K;refine aG (aA (wp_block ?_));refine jB (id := 0) (Rel := fun (⟨l3, i⟩ : List Int × Int) a w => Kn a 37 [(0, .string (bs b)), (4, .slice A l3.length c), (15, I (b.length : Int)), (16, I i)] ∧ Mem w0.heap.size w0 w [.row 5 1 A l3.length c ((cI .u8).all l3)]) h (fun _ _ => rfl) ⟨K.pick [0,4,15,16], M.pick [0] aJ⟩ ?_ ?_
 ·clear K M h;rintro ⟨l6, i2⟩ a w ⟨K, M⟩ h;try dsimp only at h
  refine eQ ?_;refine aA (wp_seq (aB ?_));refine aS K M ?_; clear K;refine bJ (fun _ K => Ce rfl wH Is pO K rfl (g8 (C := (cI .u8)) 0 rfl rfl)) M ?_;refine qL M ?_; intro a K;refine aG (aA (wp_ret ?_));cases h;exact dI K rfl (aD K rfl) (aD K rfl) ⟨_, rfl, rfl, M.pick [] aJ⟩
 clear K M h;rintro kk fuel ⟨l3, i⟩ a w hk1 ⟨K, M⟩ h;unfold yT at h;refine wp_seq (aB ?_);refine aS K M ?_; clear K; intro a K;refine aG (aA (wp_seq ?_));refine eC K rfl h ?_ ?_
 ·intro hb h;refine wp_skip (aA (wp_seq (wp_block (wp_seq (aB ?_)))));refine bD K M ?_; clear K; intro a K;refine aG (aA ?_);refine aW (fun w => Mem _ _ w _) [0,0,0,0,0,0,0,0,0,0,0,0,0,0,0,2] aO aO M.drew ?_;replace M := M.drew;refine uB K ?_; clear K;refine g9 ?_;obtain ⟨x4, hx, h⟩ := jS h;refine cO (fun _ K => qW hx (jY rfl K rfl rfl aJ)) ?_;obtain ⟨e3, lN, h⟩ := aE h;refine cO (fun _ K => f9 rfl wH K rfl rfl ((g8 (C := (cI .u8)) 0 rfl rfl) _ M) lN) ?_;refine cO (fun _ K => gV rfl XB K rfl rfl (g8 (C := (cI .u8)) 0 rfl rfl) lN rfl) ?_;iterate 2 (refine g9 ?_)
  obtain ⟨b3, J0, h⟩ := aE h;refine cO (fun _ K => p7 rfl pO K rfl rfl J0) ?_;iterate 2 (refine g9 ?_)
  refine cO (fun _ K => oS rfl K rfl rfl aJ) ?_;refine g9 ?_; intro a K;obtain ⟨_, h0, h⟩ := aE h;have h0 := nS h0;refine jJ K (pR rfl K rfl rfl h0) ?_; clear K;refine cO (fun _ K => Fe rfl K rfl rfl) ?_;obtain ⟨e4, rB, h⟩ := aE h;refine cO (fun _ K => f9 rfl wH K rfl rfl ((g8 (C := (cI .u8)) 0 rfl rfl) _ M) rB) ?_; intro a K;obtain ⟨l5, u1, h⟩ := aE h;refine CK K (gM (el := EF .u8 e3 (nY .u8 (IntKind.u8.wrap ((b3.toNat : Int) - 48)) (IntKind.i64.wrap (7 - (Int.tmod i 8))))) rfl ZE rfl rfl K rfl rfl rfl 0 M rfl u1) ?_;have M0 := M; clear K M; rintro _ a w M K;have hl := iF u1;try rw [hl] at M
  try rw [hl] at K
  clear hl;clear M0;refine eU ?_;refine a6 (aA (aB ?_));refine bD K M ?_; clear K; intro a K;refine aG ?_;exact aA ⟨(l5, IntKind.i64.wrap (i + 1)), ⟨K.pick [0,4,15,16], M.pick [0] aJ⟩, h⟩
 intro hb h;refine wp_exit ?_;refine aU ?_;exact aU (hk1 (l3, i) _ _ ⟨K.pick [0,4,15,16], M.pick [0] aJ⟩ h)
theorem ID {N : Nat} {d : List UInt8} {o p2 : Int} {w0 : World} {r : List Int × Int} (h : BD N d o p2 = some r) :
  Calls Tryz.prog 98 #[.string (bs d), I o, I p2] w0 fun e w' => ∃ v, e = .returned v ∧ ∃ A0 c0, v = .tuple #[.slice A0 r.1.length c0, I r.2] ∧ Mem w0.heap.size w0 w' [.row 3 1 A0 r.1.length c0 ((cI .i64).all r.1)] := by
 refine aT Tryz.func98 rfl Tryz.ntmps98 rfl ?_;intro a K;have M := Mem.start w0;have K : Kn a 70 [(0, _), (1, _), (2, _)] := K;unfold BD at h;refine wp_seq (aB ?_);refine bD K M ?_; clear K; intro a K;refine aG (aA (wp_seq (wp_seq (aB ?_))));refine aS K M ?_; clear K; intro a K;obtain ⟨r2, eE, h⟩ := aE h;refine a8 K (fR Sa K (Eo eE)) ?_;clear K; rintro _ a w ⟨rfl, Zq⟩ K;replace M := M.call Zq; clear Zq;refine bD K M ?_; clear K; intro a K
 rcases kZ (!(r2)) with hb | hb
 ·have h := cP hb h;have K := K.eW (s := 15) rfl hb;refine eX K M ?_; clear K; intro a K;refine aG (aA ?_);refine aY K rfl ?_;refine wp_seq (aB ?_);refine bD K M ?_; clear K; intro a K;refine aG (aA (wp_ret (aH ?_)));cases h;exact dI K rfl (aD K rfl) (aD K rfl) ⟨_, rfl, _, _, rfl, (((Mem.aN 3 1 (cI .i64) M)).pick [0] aJ)⟩
 have h := a7 hb h;have K := K.eW (s := 15) rfl hb;refine eX K M ?_; clear K; intro a K;refine aG (aA ?_);refine eC K rfl h ?_ ?_
 ·intro hb h;refine wp_seq (aB ?_);refine bD K M ?_; clear K; intro a K;refine aG (aA (wp_ret (aH ?_)));cases h;exact dI K rfl (aD K rfl) (aD K rfl) ⟨_, rfl, _, _, rfl, (((Mem.aN 3 1 (cI .i64) M)).pick [0] aJ)⟩
 intro hb h;refine wp_skip (aA (wp_seq (wp_seq (aB ?_))));refine bD K M ?_; clear K; intro a K;refine aG (aA ?_);refine eC K rfl h ?_ ?_
 ·intro hb h;refine wp_seq (aB ?_);refine bD K M ?_; clear K; intro a K;refine aG (aA (wp_ret (aH ?_)));cases h;exact dI K rfl (aD K rfl) (aD K rfl) ⟨_, rfl, _, _, rfl, (((Mem.aN 3 1 (cI .i64) M)).pick [0] aJ)⟩
 intro hb h;refine wp_skip (aA (wp_seq (wp_seq (aB ?_))));refine aS K M ?_; clear K;refine bJ (fun _ K => jW rfl pO K rfl) M ?_;refine JY M ?_;refine bJ (fun _ K => jY rfl K rfl rfl aJ) M ?_;refine gR M ?_; intro a K;refine aG (aA ?_);refine eC K rfl h ?_ ?_
 ·intro hb h;refine wp_seq (aB ?_);refine bD K M ?_; clear K; intro a K;refine aG (aA (wp_ret (aH ?_)));cases h;exact dI K rfl (aD K rfl) (aD K rfl) ⟨_, rfl, _, _, rfl, (((Mem.aN 3 1 (cI .i64) M)).pick [0] aJ)⟩
 intro hb h;refine wp_skip (aA (wp_seq (aB ?_)));refine aS K M ?_; clear K; intro a K;refine aG (aA (wp_seq (aB ?_)));refine bD K M ?_; clear K; intro a K;refine aG (aA (wp_seq (wp_seq (aB ?_))));refine aS K M ?_; clear K;refine bJ (fun _ K => jW rfl pO K rfl) M ?_;refine gR M ?_; intro a K;refine aG (aA (wp_block ?_));replace M := Mem.aN 3 1 (cI .i64) M;refine jB (id := 0) (Rel := fun (⟨l5, i3, i4, i5⟩ : List Int × Int × Int × Int) a w => ∃ (A4 : Option Addr) (c4 : Nat), Kn a 70 [(0, .string (bs d)), (1, I o), (2, I p2), (8, .slice A4 l5.length c4), (9, I i3), (10, I i4), (30, I (d.length : Int)), (31, I i5)] ∧ Mem w0.heap.size w0 w [.row 3 1 A4 l5.length c4 ((cI .i64).all l5)]) h (fun _ _ => rfl) ⟨none, 0, K.pick [0,1,2,8,9,10,30,31], M.pick [0] aJ⟩ ?_ ?_
 ·clear K M h;rintro ⟨Zw, i12, Of, Od⟩ a w ⟨Mw, c11, K, M⟩ h;try dsimp only at h
  refine eQ ?_;refine aA (wp_seq (wp_seq (aB ?_)));refine bD K M ?_; clear K; intro a K;refine aG (aA ?_);refine eC K rfl h ?_ ?_
  ·intro hb h;refine wp_seq (aB ?_);refine bD K M ?_; clear K; intro a K;refine aG (aA (wp_ret (aH ?_)));cases h;exact dI K rfl (aD K rfl) (aD K rfl) ⟨_, rfl, _, _, rfl, (((Mem.aN 3 1 (cI .i64) M)).pick [0] aJ)⟩
  intro hb h;refine wp_skip (aA (wp_seq (aB ?_)));refine eX K M ?_; clear K; intro a K;refine aG (aA (wp_ret ?_));cases h;exact dI K rfl (aD K rfl) (aD K rfl) ⟨_, rfl, _, _, rfl, M.pick [0] aJ⟩
 clear K M h;rintro kk fuel ⟨l5, i3, i4, i5⟩ a w hk1 ⟨A4, c4, K, M⟩ h;unfold wP at h;refine wp_seq (aB ?_);refine aS K M ?_; clear K; intro a K;refine aG (aA (wp_seq ?_));refine eC K rfl h ?_ ?_
 ·intro hb h;refine wp_skip (aA (wp_seq (wp_block (wp_seq (aB ?_)))));refine bD K M ?_; clear K; intro a K;refine aG (aA (wp_seq (aB ?_)));refine aS K M ?_; clear K;refine bJ (fun _ K => pR rfl K rfl rfl aJ) M ?_;refine qL M ?_;obtain ⟨b3, J0, h⟩ := aE h;refine bJ (fun _ K => p7 rfl pO K rfl rfl J0) M ?_;refine bJ (fun _ K => eT rfl rfl ET K rfl) M ?_;refine bJ (fun _ K => Fe rfl K rfl rfl) M ?_;refine qL M ?_;obtain ⟨Dc, hx, h⟩ := jS h;refine bJ (fun _ K => qW hx (bC rfl K rfl)) M ?_;obtain ⟨QI, hx, h⟩ := jS h;refine bJ (fun _ K => qW hx (bC rfl K rfl)) M ?_; intro a K;refine aG (aA (wp_block ?_));refine jB (id := 2) (Rel := fun (⟨l8, i8, i9⟩ : List Int × Int × Int) a w => ∃ (A7 : Option Addr) (c7 : Nat), Kn a 70 [(0, .string (bs d)), (1, I o), (2, I p2), (8, .slice A7 l8.length c7), (9, I i8), (10, I i9), (30, I (d.length : Int)), (31, I i5)] ∧ Mem w0.heap.size w0 w [.row 3 1 A7 l8.length c7 ((cI .i64).all l8)]) h (fun _ _ => rfl) ⟨A4, c4, K.pick [0,1,2,8,9,10,30,31], M.pick [0] aJ⟩ ?_ ?_
  ·clear K M h;rintro ⟨L9, Ec, i11⟩ a w ⟨HY, c10, K, M⟩ h;try dsimp only at h
   refine eQ ?_;refine a6 (aA (aB ?_));refine bD K M ?_; clear K; intro a K;refine aG ?_;exact aA ⟨(L9, Ec, i11, IntKind.i64.wrap (i5 + 1)), ⟨HY, c10, K.pick [0,1,2,8,9,10,30,31], M.pick [0] aJ⟩, h⟩
  clear K M h;rintro kk fuel ⟨l8, i8, i9⟩ a w hk2 ⟨A7, c7, K, M⟩ h;unfold wO at h;refine wp_seq (wp_seq (aB ?_));refine iJ K M ?_; clear K; intro a K
  rcases kZ (decide (o ≤ i9)) with hb | hb
  ·have h := cP hb h;have K := K.eW (s := 46) rfl hb;refine qN K M ?_; clear K; intro a K;refine aG (aA ?_);refine eC K rfl h ?_ ?_
   ·intro hb h;refine wp_skip (aA (wp_block (wp_seq (aB ?_))));refine eX K M ?_; clear K;obtain ⟨Io, hx, h⟩ := jS h;refine bJ (fun _ K => qW hx (bC rfl K rfl)) M ?_; intro a K;refine aG (aA (wp_seq (aB ?_)));refine eX K M ?_; clear K; intro a K;obtain ⟨_, h0, h⟩ := aE h;have h0 := nS h0;refine eP K (nG rfl K rfl rfl h0) M ?_; clear K; intro a K;refine a8 K (dL rfl f6 z3 K (vs := [(0, I (jR .i64 i8 Io))]) (cs := [I (jR .i64 i8 Io)]) rfl aO rfl rfl M) ?_;have M0 := M; clear K M; rintro _ a w ⟨UW, rfl, M⟩ K;replace M := M.jM 0 rfl (cI .i64) ([jR .i64 i8 Io] : List Int) (n := 1) rfl rfl rfl;clear M0;obtain ⟨l10, Lr, h⟩ := aE h;refine a8 K (j3 (C := (cI .i64)) (xs := l8) (ys := ([jR .i64 i8 Io] : List Int)) rfl f6 rfl z3 rfl rfl K rfl rfl 1 M rfl ((g8 (C := (cI .i64)) 0 rfl rfl) _ M) Lr) ?_;clear K M; rintro _ a w ⟨A9, c9, rfl, M⟩ K;refine aS K M ?_; clear K; intro a K;refine aG (aA (aB ?_));refine bD K M ?_; clear K; intro a K;obtain ⟨_, h0, h⟩ := aE h;have h0 := nS h0;refine eP K (pR rfl K rfl rfl h0) M ?_; clear K;refine qL M ?_;obtain ⟨Mc, hx, h⟩ := jS h;refine bJ (fun _ K => qW hx (bC rfl K rfl)) M ?_; intro a K;refine aG (a6 ?_);exact aA ⟨(l10, Mc, Io), ⟨A9, c9, K.pick [0,1,2,8,9,10,30,31], M.pick [1] aJ⟩, h⟩
   intro hb h;refine wp_exit ?_;refine aU ?_;exact aU (hk2 (l8, i8, i9) _ _ ⟨A7, c7, K.pick [0,1,2,8,9,10,30,31], M.pick [0] aJ⟩ h)
  have h := a7 hb h;have K := K.eW (s := 46) rfl hb;refine qN K M ?_; clear K; intro a K;refine aG (aA ?_);refine lH K rfl ?_;refine wp_exit ?_;refine aU ?_;exact aU (hk2 (l8, i8, i9) _ _ ⟨A7, c7, K.pick [0,1,2,8,9,10,30,31], M.pick [0] aJ⟩ h)
 intro hb h;refine wp_exit ?_;refine aU ?_;exact aU (hk1 (l5, i3, i4, i5) _ _ ⟨A4, c4, K.pick [0,1,2,8,9,10,30,31], M.pick [0] aJ⟩ h)
theorem GI {N : Nat} {s : List UInt8} {w0 : World} {r : List UInt8} (h : Bm N s = some r) :
  Calls Tryz.prog 126 #[.string (bs s)] w0 fun e w' => ∃ v, e = .returned v ∧ v = .string (bs r) ∧ Mem w0.heap.size w0 w' [] := by
 refine aT Tryz.func126 rfl Tryz.ntmps126 rfl ?_;intro a K;have M := Mem.start w0;have K : Kn a 18 [(0, _)] := K;unfold Bm at h;refine wp_seq (aB ?_);refine aS K M ?_; clear K; intro a K;refine aG (aA (wp_seq (aB ?_)));refine a8 K (aQ rfl (show gZ Tryz.prog 41 = some [.pointer none, .slice none 0 0] by kernel_rfl) M) ?_;have M0 := M; clear K M; rintro _ a w ⟨Qk, rfl, M⟩ K;replace M := Mem.O2 5 M;clear M0;refine aG (aA (wp_seq (wp_seq (aB ?_))));refine aS K M ?_; clear K; intro a K;refine aG (aA (wp_block ?_));refine jB (id := 0) (Rel := fun (⟨l2, i⟩ : List UInt8 × Int) a w => ∃ (A : Option Addr) (c : Nat), Kn a 18 [(0, .string (bs s)), (3, .pointer (some ⟨Qk, 0, none⟩)), (4, I i)] ∧ Mem w0.heap.size w0 w [.row 5 1 A l2.length c ((cI .u8).all (nZ l2)), .Bv Qk 41 A l2.length c]) h (fun _ _ => rfl) ⟨none, 0, K.pick [0,3,4], M.pick [0,1] aJ⟩ ?_ ?_
 ·clear K M h;rintro ⟨l3, i4⟩ a w ⟨A4, c4, K, M⟩ h;try dsimp only at h
  refine eQ ?_;refine aA (wp_seq (aB ?_));refine a8 K (dS (vs := [.pointer (some ⟨Qk, 0, none⟩)]) (cap := []) rfl Np K rfl rfl (zY (show Mem _ _ _ [.Bv Qk 41 A4 l3.length c4, .row 5 1 A4 l3.length c4 ((cI .u8).all (nZ l3))] from M.pick [1,0] aJ))) ?_;clear K M; rintro _ a w ⟨rfl, M⟩ K;refine aS K M ?_; clear K; intro a K;refine aG (aA (wp_ret ?_));cases h;exact cD K rfl (aD K rfl) ⟨_, rfl, rfl, M.pick [] aJ⟩
 clear K M h;rintro kk fuel ⟨l2, i⟩ a w hk1 ⟨A, c, K, M⟩ h;unfold AG at h;refine wp_seq (wp_seq (aB ?_));refine bD K M ?_; clear K;refine bJ (fun _ K => jW rfl pO K rfl) M ?_;refine gR M ?_; intro a K;refine aG (aA ?_);refine eC K rfl h ?_ ?_
 ·intro hb h;refine wp_skip (aA (wp_seq (wp_block (aB ?_))));refine bD K M ?_; clear K;obtain ⟨b3, J0, h⟩ := aE h;refine bJ (fun _ K => p7 rfl pO K rfl rfl J0) M ?_;refine bJ (fun _ K => eT rfl rfl ET K rfl) M ?_; intro a K;obtain ⟨r3, jI, h⟩ := aE h;refine a8 K (fR Pu K (Er jI)) ?_;clear K; rintro _ a w ⟨rfl, Zq⟩ K;replace M := M.call Zq; clear Zq;obtain ⟨b4, Uv, h⟩ := aE h;refine a8 K (dS (vs := [.pointer (some ⟨Qk, 0, none⟩), .string (bs r3)]) (cap := []) rfl JW K rfl rfl (o8 (show Mem _ _ _ [.Bv Qk 41 A l2.length c, .row 5 1 A l2.length c ((cI .u8).all (nZ l2))] from M.pick [1,0] aJ) Uv)) ?_;clear K M; rintro _ a w ⟨A3, c3, M⟩ K;refine aG (a6 (aA (aB ?_)));refine bD K M ?_; clear K;obtain ⟨i3, hx, h⟩ := jS h;refine bJ (fun _ K => qW hx (bC rfl K rfl)) M ?_; intro a K;refine aG ?_;exact aA ⟨(b4, i3), ⟨A3, c3, K.pick [0,3,4], M.pick [1,0] aJ⟩, h⟩
 intro hb h;refine wp_exit ?_;refine aU ?_;exact aU (hk1 (l2, i) _ _ ⟨A, c, K.pick [0,3,4], M.pick [0,1] aJ⟩ h)
theorem J1 {N : Nat} {b : List UInt8} {w0 : World} {r : Int × Int} (h : CE N b = some r) :
  Calls Tryz.prog 128 #[.string (bs b)] w0 fun e w' => ∃ v, e = .returned v ∧ v = .tuple #[I r.1, I r.2] ∧ Mem w0.heap.size w0 w' [] := by
 refine aT Tryz.func128 rfl Tryz.ntmps128 rfl ?_;intro a K;have M := Mem.start w0;have K : Kn a 27 [(0, _)] := K;unfold CE at h;refine wp_seq (aB ?_);refine bD K M ?_; clear K; intro a K;refine aG (aA (wp_seq (wp_seq (aB ?_))));refine aS K M ?_; clear K; intro a K;obtain ⟨r2, eE, h⟩ := aE h;refine a8 K (fR Pv K (HZ eE)) ?_;clear K; rintro _ a w ⟨rfl, Zq⟩ K;replace M := M.call Zq; clear Zq;refine aS K M ?_; clear K; intro a K;refine aG (aA ?_);refine eC K rfl h ?_ ?_
 ·intro hb h;refine wp_seq (aB ?_);refine bD K M ?_; clear K; intro a K;refine aG (aA (wp_ret (aH ?_)));cases h;exact dI K rfl (aD K rfl) (aD K rfl) ⟨_, rfl, rfl, M.pick [] aJ⟩
 intro hb h;refine wp_skip (aA (wp_seq (wp_seq (aB ?_))));refine aS K M ?_; clear K;refine bJ (fun _ K => jW rfl pO K rfl) M ?_;refine gR M ?_; intro a K;refine aG (aA ?_);refine eC K rfl h ?_ ?_
 ·intro hb h;refine wp_seq (aB ?_);refine bD K M ?_; clear K; intro a K;refine aG (aA (wp_ret (aH ?_)));cases h;exact dI K rfl (aD K rfl) (aD K rfl) ⟨_, rfl, rfl, M.pick [] aJ⟩
 intro hb h;refine wp_skip (aA (wp_seq (aB ?_)));refine aS K M ?_; clear K; intro a K;refine aG (aA (wp_seq (wp_seq (aB ?_))));refine aS K M ?_; clear K;refine bJ (fun _ K => jW rfl pO K rfl) M ?_;refine gR M ?_; intro a K;refine aG (aA (wp_block ?_));refine jB (id := 0) (Rel := fun (⟨n, i⟩ : Int × Int) a w => Kn a 27 [(0, .string (bs b)), (4, I n), (13, I (b.length : Int)), (14, I i)] ∧ Mem w0.heap.size w0 w []) h (fun _ _ => rfl) ⟨K.pick [0,4,13,14], M.pick [] aJ⟩ ?_ ?_
 ·clear K M h;rintro ⟨n4, i2⟩ a w ⟨K, M⟩ h;try dsimp only at h
  refine eQ ?_;refine aA (wp_seq (aB ?_));refine eX K M ?_; clear K; intro a K;refine aG (aA (wp_ret ?_));cases h;exact dI K rfl (aD K rfl) (aD K rfl) ⟨_, rfl, rfl, M.pick [] aJ⟩
 clear K M h;rintro kk fuel ⟨n, i⟩ a w hk1 ⟨K, M⟩ h;unfold yU at h;refine wp_seq (aB ?_);refine aS K M ?_; clear K; intro a K;refine aG (aA (wp_seq ?_));refine eC K rfl h ?_ ?_
 ·intro hb h;refine wp_skip (aA (wp_seq (wp_block (wp_seq (aB ?_)))));refine bD K M ?_; clear K; intro a K;refine aG (aA (aB ?_));refine aS K M ?_; clear K;refine bJ (fun _ K => pR rfl K rfl rfl aJ) M ?_;refine qL M ?_;obtain ⟨b3, J0, h⟩ := aE h;refine bJ (fun _ K => p7 rfl pO K rfl rfl J0) M ?_;refine gR M ?_;refine bJ (fun _ K => eT rfl rfl ET K rfl) M ?_;refine gR M ?_;obtain ⟨n3, hx, h⟩ := jS h;refine bJ (fun _ K => qW hx (bC rfl K rfl)) M ?_; intro a K;refine aG (a6 (aA (aB ?_)));refine bD K M ?_; clear K; intro a K;refine aG ?_;exact aA ⟨(n3, IntKind.i64.wrap (i + 1)), ⟨K.pick [0,4,13,14], M.pick [] aJ⟩, h⟩
 intro hb h;refine wp_exit ?_;refine aU ?_;exact aU (hk1 (n, i) _ _ ⟨K.pick [0,4,13,14], M.pick [] aJ⟩ h)
theorem CX {N : Nat} {x2 : Int} {w0 : World} {r : Bool} (h : t7 N x2 = some r) :
  Calls Tryz.prog 142 #[I x2] w0 fun e w' => ∃ v, e = .returned v ∧ v = .bool r ∧ Mem w0.heap.size w0 w' [] := by
 refine aT Tryz.func142 rfl Tryz.ntmps142 rfl ?_;intro a K;have M := Mem.start w0;have K : Kn a 6 [(0, _)] := K;unfold t7 at h;refine wp_seq (aB ?_);refine aS K M ?_; clear K; intro a K;refine aG (aA (wp_seq (aB ?_)));refine iJ K M ?_; clear K; intro a K;refine aG (aA (wp_ret ?_));cases h;exact cD K rfl (aD K rfl) ⟨_, rfl, rfl, M.pick [] aJ⟩
theorem Fv {N : Nat} {x2 y : Int} {w0 : World} {r : Int} (h : vM N x2 y = some r) :
  Calls Tryz.prog 121 #[I x2, I y] w0 fun e w' => ∃ v, e = .returned v ∧ v = I r ∧ Mem w0.heap.size w0 w' [] := by
 refine aT Tryz.func121 rfl Tryz.ntmps121 rfl ?_;intro a K;have M := Mem.start w0;have K : Kn a 20 [(0, _), (1, _)] := K;unfold vM at h;refine wp_seq (aB ?_);refine aS K M ?_; clear K; intro a K;refine aG (aA (wp_seq (aB ?_)));refine aS K M ?_; clear K; intro a K;obtain ⟨r2, eE, h⟩ := aE h;refine a8 K (fR PA K (CX eE)) ?_;clear K; rintro _ a w ⟨rfl, Zq⟩ K;replace M := M.call Zq; clear Zq;refine aS K M ?_; clear K; intro a K;refine aG (aA (wp_seq (aB ?_)));refine aS K M ?_; clear K; intro a K;obtain ⟨r3, jI, h⟩ := aE h;refine a8 K (fR PA K (CX jI)) ?_;clear K; rintro _ a w ⟨rfl, Zq⟩ K;replace M := M.call Zq; clear Zq;refine aS K M ?_; clear K; intro a K;refine aG (aA (wp_seq (wp_seq (aB ?_))));refine aS K M ?_; clear K; intro a K;refine aG (aA ?_);refine eC K rfl h ?_ ?_
 ·intro hb h;refine wp_seq (wp_seq (aB ?_));refine aS K M ?_; clear K; intro a K;refine aG (aA ?_);refine eC K rfl h ?_ ?_
  ·intro hb h;refine wp_seq (aB ?_);refine aS K M ?_; clear K; intro a K;refine aG (aA (wp_ret (aH (aH ?_))));cases h;exact cD K rfl (aD K rfl) ⟨_, rfl, rfl, M.pick [] aJ⟩
  intro hb h;refine wp_skip (aA (wp_seq (aB ?_)));refine aS K M ?_; clear K; intro a K;refine aG (aA (wp_ret (aH ?_)));cases h;exact cD K rfl (aD K rfl) ⟨_, rfl, rfl, M.pick [] aJ⟩
 intro hb h;refine wp_skip (aA (wp_seq (wp_seq (aB ?_))));refine aS K M ?_; clear K; intro a K;refine aG (aA ?_);refine eC K rfl h ?_ ?_
 ·intro hb h;refine wp_seq (aB ?_);refine aS K M ?_; clear K; intro a K;refine aG (aA (wp_ret (aH ?_)));cases h;exact cD K rfl (aD K rfl) ⟨_, rfl, rfl, M.pick [] aJ⟩
 intro hb h;refine wp_skip (aA (wp_seq (wp_seq (aB ?_))));refine eX K M ?_; clear K; intro a K;refine aG (aA ?_);refine eC K rfl h ?_ ?_
 ·intro hb h;refine wp_seq (aB ?_);refine aS K M ?_; clear K; intro a K;refine aG (aA (wp_ret (aH ?_)));cases h;exact cD K rfl (aD K rfl) ⟨_, rfl, rfl, M.pick [] aJ⟩
 intro hb h;refine wp_skip (aA (wp_seq (wp_seq (aB ?_))));refine eX K M ?_; clear K; intro a K;refine aG (aA ?_);refine eC K rfl h ?_ ?_
 ·intro hb h;refine wp_seq (aB ?_);refine aS K M ?_; clear K; intro a K;refine aG (aA (wp_ret (aH ?_)));cases h;exact cD K rfl (aD K rfl) ⟨_, rfl, rfl, M.pick [] aJ⟩
 intro hb h;refine wp_skip (aA (wp_seq (aB ?_)));refine aS K M ?_; clear K; intro a K;refine aG (aA (wp_ret ?_));cases h;exact cD K rfl (aD K rfl) ⟨_, rfl, rfl, M.pick [] aJ⟩
end
end Go.Proofs.YtpmnfhifmmfglaaGreatDoor
