/- Closed facts on the types and functions of the seat, each by looking. -/
import Derived.Test.YtpmnfhifmmfglaaD7
import Derived.Test.YtpmnfhifmmfglaaChecked
set_option linter.unusedVariables false
set_option linter.unusedSimpArgs false
set_option linter.unusedSectionVars false
namespace Go.Proofs.Ytpmnfhifmmfglaa
open Go.RowKit
theorem sc1 : scT Try.prog 1 = true := by kernel_rfl
theorem z1 : zeroT Try.prog 1 = some [.nilFunc] := by kernel_rfl
theorem sc2 : scT Try.prog 2 = true := by kernel_rfl
theorem z2 : zeroT Try.prog 2 = some [.int .i64 0] := by kernel_rfl
theorem ik2 : Try.prog.underlying 2 = some (.int .i64) := by kernel_rfl
theorem sz2 : (Try.prog.info? 2).map (·.size) = some 1 := by kernel_rfl
theorem sc3 : scT Try.prog 3 = true := by kernel_rfl
theorem z3 : zeroT Try.prog 3 = some [.int .i64 0] := by kernel_rfl
theorem ik3 : Try.prog.underlying 3 = some (.int .i64) := by kernel_rfl
theorem sz3 : (Try.prog.info? 3).map (·.size) = some 1 := by kernel_rfl
theorem bo4 : Try.prog.underlying 4 = some .bool := by kernel_rfl
theorem sc4 : scT Try.prog 4 = true := by kernel_rfl
theorem z4 : zeroT Try.prog 4 = some [.bool false] := by kernel_rfl
theorem sz4 : (Try.prog.info? 4).map (·.size) = some 1 := by kernel_rfl
theorem sc5 : scT Try.prog 5 = true := by kernel_rfl
theorem z5 : zeroT Try.prog 5 = some [.int .u8 0] := by kernel_rfl
theorem ik5 : Try.prog.underlying 5 = some (.int .u8) := by kernel_rfl
theorem sz5 : (Try.prog.info? 5).map (·.size) = some 1 := by kernel_rfl
theorem sc6 : scT Try.prog 6 = true := by kernel_rfl
theorem z6 : zeroT Try.prog 6 = some [.int .u8 0] := by kernel_rfl
theorem ik6 : Try.prog.underlying 6 = some (.int .u8) := by kernel_rfl
theorem sz6 : (Try.prog.info? 6).map (·.size) = some 1 := by kernel_rfl
theorem ty7 : aggT Try.prog 7 4 = true := by kernel_rfl
theorem z7 : zeroT Try.prog 7 = some [.int .i64 0, .int .i64 0, .bool false, .int .u8 0] := by kernel_rfl
theorem fld7_0 : fldT Try.prog 7 0 = some 0 := by kernel_rfl
theorem fld7_1 : fldT Try.prog 7 1 = some 1 := by kernel_rfl
theorem fld7_2 : fldT Try.prog 7 2 = some 2 := by kernel_rfl
theorem fld7_3 : fldT Try.prog 7 3 = some 3 := by kernel_rfl
theorem sz7 : (Try.prog.info? 7).map (·.size) = some 4 := by kernel_rfl
theorem ty8 : aggT Try.prog 8 4 = true := by kernel_rfl
theorem z8 : zeroT Try.prog 8 = some [.int .i64 0, .int .i64 0, .bool false, .int .u8 0] := by kernel_rfl
theorem fld8_0 : fldT Try.prog 8 0 = some 0 := by kernel_rfl
theorem fld8_1 : fldT Try.prog 8 1 = some 1 := by kernel_rfl
theorem fld8_2 : fldT Try.prog 8 2 = some 2 := by kernel_rfl
theorem fld8_3 : fldT Try.prog 8 3 = some 3 := by kernel_rfl
theorem sz8 : (Try.prog.info? 8).map (·.size) = some 4 := by kernel_rfl
theorem sc9 : scT Try.prog 9 = true := by kernel_rfl
theorem z9 : zeroT Try.prog 9 = some [.string (bs ([]))] := by kernel_rfl
theorem st9 : Try.prog.underlying 9 = some .string := by kernel_rfl
theorem sz9 : (Try.prog.info? 9).map (·.size) = some 1 := by kernel_rfl
theorem sc10 : scT Try.prog 10 = true := by kernel_rfl
theorem z10 : zeroT Try.prog 10 = some [.string (bs ([]))] := by kernel_rfl
theorem st10 : Try.prog.underlying 10 = some .string := by kernel_rfl
theorem sz10 : (Try.prog.info? 10).map (·.size) = some 1 := by kernel_rfl
theorem sc11 : scT Try.prog 11 = true := by kernel_rfl
theorem z11 : zeroT Try.prog 11 = some [.string (bs ([]))] := by kernel_rfl
theorem st11 : Try.prog.underlying 11 = some .string := by kernel_rfl
theorem sz11 : (Try.prog.info? 11).map (·.size) = some 1 := by kernel_rfl
theorem sc12 : scT Try.prog 12 = true := by kernel_rfl
theorem z12 : zeroT Try.prog 12 = some [.int .u64 0] := by kernel_rfl
theorem ik12 : Try.prog.underlying 12 = some (.int .u64) := by kernel_rfl
theorem sz12 : (Try.prog.info? 12).map (·.size) = some 1 := by kernel_rfl
theorem ty13 : aggT Try.prog 13 2 = true := by kernel_rfl
theorem z13 : zeroT Try.prog 13 = some [.string (bs ([])), .int .u64 0] := by kernel_rfl
theorem fld13_0 : fldT Try.prog 13 0 = some 0 := by kernel_rfl
theorem fld13_1 : fldT Try.prog 13 1 = some 1 := by kernel_rfl
theorem sz13 : (Try.prog.info? 13).map (·.size) = some 2 := by kernel_rfl
theorem ty14 : aggT Try.prog 14 2 = true := by kernel_rfl
theorem z14 : zeroT Try.prog 14 = some [.string (bs ([])), .int .u64 0] := by kernel_rfl
theorem fld14_0 : fldT Try.prog 14 0 = some 0 := by kernel_rfl
theorem fld14_1 : fldT Try.prog 14 1 = some 1 := by kernel_rfl
theorem sz14 : (Try.prog.info? 14).map (·.size) = some 2 := by kernel_rfl
theorem sc15 : scT Try.prog 15 = true := by kernel_rfl
theorem sc16 : scT Try.prog 16 = true := by kernel_rfl
theorem sc17 : scT Try.prog 17 = true := by kernel_rfl
theorem sz18 : (Try.prog.info? 18).map (·.size) = some 1 := by kernel_rfl
theorem sz19 : (Try.prog.info? 19).map (·.size) = some 1 := by kernel_rfl
theorem sc20 : scT Try.prog 20 = true := by kernel_rfl
theorem sc21 : scT Try.prog 21 = true := by kernel_rfl
theorem z21 : zeroT Try.prog 21 = some [.int .i32 0] := by kernel_rfl
theorem ik21 : Try.prog.underlying 21 = some (.int .i32) := by kernel_rfl
theorem sz21 : (Try.prog.info? 21).map (·.size) = some 1 := by kernel_rfl
theorem sc22 : scT Try.prog 22 = true := by kernel_rfl
theorem z22 : zeroT Try.prog 22 = some [.slice none 0 0] := by kernel_rfl
theorem sl22 : slT Try.prog 22 3 1 8 = true := by kernel_rfl
theorem un22 : ∃ e, Try.prog.underlying 22 = some (.slice e) := ⟨_, (slT_spec sl22).1⟩
theorem sz22 : (Try.prog.info? 22).map (·.size) = some 1 := by kernel_rfl
theorem ty23 : aggT Try.prog 23 3 = true := by kernel_rfl
theorem z23 : zeroT Try.prog 23 = some [.int .i64 0, .int .i64 0, .slice none 0 0] := by kernel_rfl
theorem fld23_0 : fldT Try.prog 23 0 = some 0 := by kernel_rfl
theorem fld23_1 : fldT Try.prog 23 1 = some 1 := by kernel_rfl
theorem fld23_2 : fldT Try.prog 23 2 = some 2 := by kernel_rfl
theorem sz23 : (Try.prog.info? 23).map (·.size) = some 3 := by kernel_rfl
theorem ty24 : aggT Try.prog 24 3 = true := by kernel_rfl
theorem z24 : zeroT Try.prog 24 = some [.int .i64 0, .int .i64 0, .slice none 0 0] := by kernel_rfl
theorem fld24_0 : fldT Try.prog 24 0 = some 0 := by kernel_rfl
theorem fld24_1 : fldT Try.prog 24 1 = some 1 := by kernel_rfl
theorem fld24_2 : fldT Try.prog 24 2 = some 2 := by kernel_rfl
theorem sz24 : (Try.prog.info? 24).map (·.size) = some 3 := by kernel_rfl
theorem ty25 : aggT Try.prog 25 4 = true := by kernel_rfl
theorem z25 : zeroT Try.prog 25 = some [.int .i64 0, .int .i64 0, .int .i64 0, .int .i64 0] := by kernel_rfl
theorem ar25 : Try.prog.underlying 25 = some (.array 4 3) := by kernel_rfl
theorem sz25 : (Try.prog.info? 25).map (·.size) = some 4 := by kernel_rfl
theorem sc26 : scT Try.prog 26 = true := by kernel_rfl
theorem z26 : zeroT Try.prog 26 = some [.int .i64 0] := by kernel_rfl
theorem ik26 : Try.prog.underlying 26 = some (.int .i64) := by kernel_rfl
theorem sz26 : (Try.prog.info? 26).map (·.size) = some 1 := by kernel_rfl
theorem sc28 : scT Try.prog 28 = true := by kernel_rfl
theorem z28 : zeroT Try.prog 28 = some [.nilFunc] := by kernel_rfl
theorem sc29 : scT Try.prog 29 = true := by kernel_rfl
theorem z29 : zeroT Try.prog 29 = some [.nilFunc] := by kernel_rfl
theorem sc30 : scT Try.prog 30 = true := by kernel_rfl
theorem z30 : zeroT Try.prog 30 = some [.nilFunc] := by kernel_rfl
theorem sc31 : scT Try.prog 31 = true := by kernel_rfl
theorem z31 : zeroT Try.prog 31 = some [.nilFunc] := by kernel_rfl
theorem sc32 : scT Try.prog 32 = true := by kernel_rfl
theorem z32 : zeroT Try.prog 32 = some [.nilFunc] := by kernel_rfl
theorem sc33 : scT Try.prog 33 = true := by kernel_rfl
theorem z33 : zeroT Try.prog 33 = some [.nilFunc] := by kernel_rfl
theorem sc34 : scT Try.prog 34 = true := by kernel_rfl
theorem z34 : zeroT Try.prog 34 = some [.slice none 0 0] := by kernel_rfl
theorem sl34 : slT Try.prog 34 96 2 16 = true := by kernel_rfl
theorem un34 : ∃ e, Try.prog.underlying 34 = some (.slice e) := ⟨_, (slT_spec sl34).1⟩
theorem sz34 : (Try.prog.info? 34).map (·.size) = some 1 := by kernel_rfl
theorem sc35 : scT Try.prog 35 = true := by kernel_rfl
theorem z35 : zeroT Try.prog 35 = some [.nilFunc] := by kernel_rfl
theorem sc36 : scT Try.prog 36 = true := by kernel_rfl
theorem z36 : zeroT Try.prog 36 = some [.nilFunc] := by kernel_rfl
theorem sc37 : scT Try.prog 37 = true := by kernel_rfl
theorem z37 : zeroT Try.prog 37 = some [.nilFunc] := by kernel_rfl
theorem sc38 : scT Try.prog 38 = true := by kernel_rfl
theorem z38 : zeroT Try.prog 38 = some [.nilFunc] := by kernel_rfl
theorem ty39 : aggT Try.prog 39 3 = true := by kernel_rfl
theorem z39 : zeroT Try.prog 39 = some [.int .i64 0, .int .i64 0, .int .i64 0] := by kernel_rfl
theorem ar39 : Try.prog.underlying 39 = some (.array 3 3) := by kernel_rfl
theorem sz39 : (Try.prog.info? 39).map (·.size) = some 3 := by kernel_rfl
theorem sc40 : scT Try.prog 40 = true := by kernel_rfl
theorem z40 : zeroT Try.prog 40 = some [.nilFunc] := by kernel_rfl
theorem sc41 : scT Try.prog 41 = true := by kernel_rfl
theorem z41 : zeroT Try.prog 41 = some [.nilFunc] := by kernel_rfl
theorem sc42 : scT Try.prog 42 = true := by kernel_rfl
theorem z42 : zeroT Try.prog 42 = some [.nilFunc] := by kernel_rfl
theorem sc44 : scT Try.prog 44 = true := by kernel_rfl
theorem z44 : zeroT Try.prog 44 = some [.nilFunc] := by kernel_rfl
theorem sc45 : scT Try.prog 45 = true := by kernel_rfl
theorem z45 : zeroT Try.prog 45 = some [.nilFunc] := by kernel_rfl
theorem sc46 : scT Try.prog 46 = true := by kernel_rfl
theorem z46 : zeroT Try.prog 46 = some [.nilFunc] := by kernel_rfl
theorem sc47 : scT Try.prog 47 = true := by kernel_rfl
theorem z47 : zeroT Try.prog 47 = some [.slice none 0 0] := by kernel_rfl
theorem sl47 : slT Try.prog 47 73 3 24 = true := by kernel_rfl
theorem un47 : ∃ e, Try.prog.underlying 47 = some (.slice e) := ⟨_, (slT_spec sl47).1⟩
theorem sz47 : (Try.prog.info? 47).map (·.size) = some 1 := by kernel_rfl
theorem ty48 : aggT Try.prog 48 3 = true := by kernel_rfl
theorem z48 : zeroT Try.prog 48 = some [.int .i64 0, .int .i64 0, .slice none 0 0] := by kernel_rfl
theorem fld48_0 : fldT Try.prog 48 0 = some 0 := by kernel_rfl
theorem fld48_1 : fldT Try.prog 48 1 = some 1 := by kernel_rfl
theorem fld48_2 : fldT Try.prog 48 2 = some 2 := by kernel_rfl
theorem sz48 : (Try.prog.info? 48).map (·.size) = some 3 := by kernel_rfl
theorem ty49 : aggT Try.prog 49 3 = true := by kernel_rfl
theorem z49 : zeroT Try.prog 49 = some [.int .i64 0, .int .i64 0, .slice none 0 0] := by kernel_rfl
theorem fld49_0 : fldT Try.prog 49 0 = some 0 := by kernel_rfl
theorem fld49_1 : fldT Try.prog 49 1 = some 1 := by kernel_rfl
theorem fld49_2 : fldT Try.prog 49 2 = some 2 := by kernel_rfl
theorem sz49 : (Try.prog.info? 49).map (·.size) = some 3 := by kernel_rfl
theorem ty50 : aggT Try.prog 50 4 = true := by kernel_rfl
theorem z50 : zeroT Try.prog 50 = some [.int .i64 0, .int .i64 0, .int .i64 0, .int .i64 0] := by kernel_rfl
theorem fld50_0 : fldT Try.prog 50 0 = some 0 := by kernel_rfl
theorem fld50_1 : fldT Try.prog 50 1 = some 1 := by kernel_rfl
theorem fld50_2 : fldT Try.prog 50 2 = some 2 := by kernel_rfl
theorem fld50_3 : fldT Try.prog 50 3 = some 3 := by kernel_rfl
theorem sz50 : (Try.prog.info? 50).map (·.size) = some 4 := by kernel_rfl
theorem ty51 : aggT Try.prog 51 4 = true := by kernel_rfl
theorem z51 : zeroT Try.prog 51 = some [.int .i64 0, .int .i64 0, .int .i64 0, .int .i64 0] := by kernel_rfl
theorem fld51_0 : fldT Try.prog 51 0 = some 0 := by kernel_rfl
theorem fld51_1 : fldT Try.prog 51 1 = some 1 := by kernel_rfl
theorem fld51_2 : fldT Try.prog 51 2 = some 2 := by kernel_rfl
theorem fld51_3 : fldT Try.prog 51 3 = some 3 := by kernel_rfl
theorem eg51 : (Try.prog).eqGuardType (Try.prog).depth 51 = false := by kernel_rfl
theorem eqr51 (x0 y0 : Int) (x1 y1 : Int) (x2 y2 : Int) (x3 y3 : Int) (w : World) : (Op.equalIn 10000 51 (.agg #[.int .i64 x0, .int .i64 x1, .int .i64 x2, .int .i64 x3]) (.agg #[.int .i64 y0, .int .i64 y1, .int .i64 y2, .int .i64 y3])).run Try.prog w = .ok (decide (x0 = y0) && decide (x1 = y1) && decide (x2 = y2) && decide (x3 = y3)) w := by
  have hp : Try.prog.stoodInHeld 51 = false := by kernel_rfl
  have ht : Try.prog.underlying 51 = some (.struct (Try.prog.fieldsOf 51)) := by kernel_rfl
  rw [run_equalIn_agg (d := 9999) _ _ _ _ ht hp]
  by_cases h0 : x0 = y0 <;> by_cases h1 : x1 = y1 <;> by_cases h2 : x2 = y2 <;> by_cases h3 : x3 = y3 <;> simp [Program.fieldsOf, Try.underlying51, go_sem, Op.eqFields, h0, h1, h2, h3]
theorem sz51 : (Try.prog.info? 51).map (·.size) = some 4 := by kernel_rfl
theorem sc53 : scT Try.prog 53 = true := by kernel_rfl
theorem z53 : zeroT Try.prog 53 = some [.nilFunc] := by kernel_rfl
theorem sc54 : scT Try.prog 54 = true := by kernel_rfl
theorem z54 : zeroT Try.prog 54 = some [.nilFunc] := by kernel_rfl
theorem sc55 : scT Try.prog 55 = true := by kernel_rfl
theorem z55 : zeroT Try.prog 55 = some [.nilFunc] := by kernel_rfl
theorem sc56 : scT Try.prog 56 = true := by kernel_rfl
theorem z56 : zeroT Try.prog 56 = some [.nilFunc] := by kernel_rfl
theorem sc57 : scT Try.prog 57 = true := by kernel_rfl
theorem z57 : zeroT Try.prog 57 = some [.nilFunc] := by kernel_rfl
theorem sc58 : scT Try.prog 58 = true := by kernel_rfl
theorem z58 : zeroT Try.prog 58 = some [.nilFunc] := by kernel_rfl
theorem sc59 : scT Try.prog 59 = true := by kernel_rfl
theorem z59 : zeroT Try.prog 59 = some [.nilFunc] := by kernel_rfl
theorem sc60 : scT Try.prog 60 = true := by kernel_rfl
theorem z60 : zeroT Try.prog 60 = some [.nilFunc] := by kernel_rfl
theorem sc61 : scT Try.prog 61 = true := by kernel_rfl
theorem z61 : zeroT Try.prog 61 = some [.nilFunc] := by kernel_rfl
theorem sc62 : scT Try.prog 62 = true := by kernel_rfl
theorem z62 : zeroT Try.prog 62 = some [.nilFunc] := by kernel_rfl
theorem sc63 : scT Try.prog 63 = true := by kernel_rfl
theorem z63 : zeroT Try.prog 63 = some [.nilFunc] := by kernel_rfl
theorem sc64 : scT Try.prog 64 = true := by kernel_rfl
theorem z64 : zeroT Try.prog 64 = some [.nilFunc] := by kernel_rfl
theorem sc65 : scT Try.prog 65 = true := by kernel_rfl
theorem z65 : zeroT Try.prog 65 = some [.nilFunc] := by kernel_rfl
theorem sc66 : scT Try.prog 66 = true := by kernel_rfl
theorem z66 : zeroT Try.prog 66 = some [.nilFunc] := by kernel_rfl
theorem sc67 : scT Try.prog 67 = true := by kernel_rfl
theorem z67 : zeroT Try.prog 67 = some [.nilFunc] := by kernel_rfl
theorem sc68 : scT Try.prog 68 = true := by kernel_rfl
theorem z68 : zeroT Try.prog 68 = some [.nilFunc] := by kernel_rfl
theorem sc69 : scT Try.prog 69 = true := by kernel_rfl
theorem z69 : zeroT Try.prog 69 = some [.nilFunc] := by kernel_rfl
theorem sc70 : scT Try.prog 70 = true := by kernel_rfl
theorem z70 : zeroT Try.prog 70 = some [.nilFunc] := by kernel_rfl
theorem sc71 : scT Try.prog 71 = true := by kernel_rfl
theorem z71 : zeroT Try.prog 71 = some [.nilFunc] := by kernel_rfl
theorem ty72 : aggT Try.prog 72 3 = true := by kernel_rfl
theorem z72 : zeroT Try.prog 72 = some [.int .i64 0, .int .i64 0, .int .i64 0] := by kernel_rfl
theorem fld72_0 : fldT Try.prog 72 0 = some 0 := by kernel_rfl
theorem fld72_1 : fldT Try.prog 72 1 = some 1 := by kernel_rfl
theorem fld72_2 : fldT Try.prog 72 2 = some 2 := by kernel_rfl
theorem sz72 : (Try.prog.info? 72).map (·.size) = some 3 := by kernel_rfl
theorem ty73 : aggT Try.prog 73 3 = true := by kernel_rfl
theorem z73 : zeroT Try.prog 73 = some [.int .i64 0, .int .i64 0, .int .i64 0] := by kernel_rfl
theorem fld73_0 : fldT Try.prog 73 0 = some 0 := by kernel_rfl
theorem fld73_1 : fldT Try.prog 73 1 = some 1 := by kernel_rfl
theorem fld73_2 : fldT Try.prog 73 2 = some 2 := by kernel_rfl
theorem eg73 : (Try.prog).eqGuardType (Try.prog).depth 73 = false := by kernel_rfl
theorem eqr73 (x0 y0 : Int) (x1 y1 : Int) (x2 y2 : Int) (w : World) : (Op.equalIn 10000 73 (.agg #[.int .i64 x0, .int .i64 x1, .int .i64 x2]) (.agg #[.int .i64 y0, .int .i64 y1, .int .i64 y2])).run Try.prog w = .ok (decide (x0 = y0) && decide (x1 = y1) && decide (x2 = y2)) w := by
  have hp : Try.prog.stoodInHeld 73 = false := by kernel_rfl
  have ht : Try.prog.underlying 73 = some (.struct (Try.prog.fieldsOf 73)) := by kernel_rfl
  rw [run_equalIn_agg (d := 9999) _ _ _ _ ht hp]
  by_cases h0 : x0 = y0 <;> by_cases h1 : x1 = y1 <;> by_cases h2 : x2 = y2 <;> simp [Program.fieldsOf, Try.underlying73, go_sem, Op.eqFields, h0, h1, h2]
theorem sz73 : (Try.prog.info? 73).map (·.size) = some 3 := by kernel_rfl
theorem sc74 : scT Try.prog 74 = true := by kernel_rfl
theorem z74 : zeroT Try.prog 74 = some [.nilFunc] := by kernel_rfl
theorem ty75 : aggT Try.prog 75 9 = true := by kernel_rfl
theorem z75 : zeroT Try.prog 75 = some [.int .i64 0, .int .i64 0, .int .i64 0, .int .i64 0, .int .i64 0, .int .i64 0, .int .i64 0, .int .i64 0, .int .i64 0] := by kernel_rfl
theorem ar75 : Try.prog.underlying 75 = some (.array 9 3) := by kernel_rfl
theorem sz75 : (Try.prog.info? 75).map (·.size) = some 9 := by kernel_rfl
theorem sc76 : scT Try.prog 76 = true := by kernel_rfl
theorem z76 : zeroT Try.prog 76 = some [.nilFunc] := by kernel_rfl
theorem sc77 : scT Try.prog 77 = true := by kernel_rfl
theorem z77 : zeroT Try.prog 77 = some [.nilFunc] := by kernel_rfl
theorem sc78 : scT Try.prog 78 = true := by kernel_rfl
theorem z78 : zeroT Try.prog 78 = some [.nilFunc] := by kernel_rfl
theorem sc79 : scT Try.prog 79 = true := by kernel_rfl
theorem z79 : zeroT Try.prog 79 = some [.nilFunc] := by kernel_rfl
theorem sc80 : scT Try.prog 80 = true := by kernel_rfl
theorem z80 : zeroT Try.prog 80 = some [.slice none 0 0] := by kernel_rfl
theorem sl80 : slT Try.prog 80 88 2 16 = true := by kernel_rfl
theorem un80 : ∃ e, Try.prog.underlying 80 = some (.slice e) := ⟨_, (slT_spec sl80).1⟩
theorem sz80 : (Try.prog.info? 80).map (·.size) = some 1 := by kernel_rfl
theorem sc81 : scT Try.prog 81 = true := by kernel_rfl
theorem z81 : zeroT Try.prog 81 = some [.nilFunc] := by kernel_rfl
theorem sc82 : scT Try.prog 82 = true := by kernel_rfl
theorem z82 : zeroT Try.prog 82 = some [.nilFunc] := by kernel_rfl
theorem sc83 : scT Try.prog 83 = true := by kernel_rfl
theorem z83 : zeroT Try.prog 83 = some [.nilFunc] := by kernel_rfl
theorem sc84 : scT Try.prog 84 = true := by kernel_rfl
theorem z84 : zeroT Try.prog 84 = some [.nilFunc] := by kernel_rfl
theorem sc85 : scT Try.prog 85 = true := by kernel_rfl
theorem z85 : zeroT Try.prog 85 = some [.nilFunc] := by kernel_rfl
theorem sc86 : scT Try.prog 86 = true := by kernel_rfl
theorem z86 : zeroT Try.prog 86 = some [.nilFunc] := by kernel_rfl
theorem ty87 : aggT Try.prog 87 2 = true := by kernel_rfl
theorem z87 : zeroT Try.prog 87 = some [.int .i64 0, .int .i64 0] := by kernel_rfl
theorem fld87_0 : fldT Try.prog 87 0 = some 0 := by kernel_rfl
theorem fld87_1 : fldT Try.prog 87 1 = some 1 := by kernel_rfl
theorem sz87 : (Try.prog.info? 87).map (·.size) = some 2 := by kernel_rfl
theorem ty88 : aggT Try.prog 88 2 = true := by kernel_rfl
theorem z88 : zeroT Try.prog 88 = some [.int .i64 0, .int .i64 0] := by kernel_rfl
theorem fld88_0 : fldT Try.prog 88 0 = some 0 := by kernel_rfl
theorem fld88_1 : fldT Try.prog 88 1 = some 1 := by kernel_rfl
theorem eg88 : (Try.prog).eqGuardType (Try.prog).depth 88 = false := by kernel_rfl
theorem eqr88 (x0 y0 : Int) (x1 y1 : Int) (w : World) : (Op.equalIn 10000 88 (.agg #[.int .i64 x0, .int .i64 x1]) (.agg #[.int .i64 y0, .int .i64 y1])).run Try.prog w = .ok (decide (x0 = y0) && decide (x1 = y1)) w := by
  have hp : Try.prog.stoodInHeld 88 = false := by kernel_rfl
  have ht : Try.prog.underlying 88 = some (.struct (Try.prog.fieldsOf 88)) := by kernel_rfl
  rw [run_equalIn_agg (d := 9999) _ _ _ _ ht hp]
  by_cases h0 : x0 = y0 <;> by_cases h1 : x1 = y1 <;> simp [Program.fieldsOf, Try.underlying88, go_sem, Op.eqFields, h0, h1]
theorem sz88 : (Try.prog.info? 88).map (·.size) = some 2 := by kernel_rfl
theorem sc89 : scT Try.prog 89 = true := by kernel_rfl
theorem z89 : zeroT Try.prog 89 = some [.nilFunc] := by kernel_rfl
theorem sc90 : scT Try.prog 90 = true := by kernel_rfl
theorem z90 : zeroT Try.prog 90 = some [.nilFunc] := by kernel_rfl
theorem sc91 : scT Try.prog 91 = true := by kernel_rfl
theorem z91 : zeroT Try.prog 91 = some [.int .u64 0] := by kernel_rfl
theorem ik91 : Try.prog.underlying 91 = some (.int .u64) := by kernel_rfl
theorem sz91 : (Try.prog.info? 91).map (·.size) = some 1 := by kernel_rfl
theorem sc92 : scT Try.prog 92 = true := by kernel_rfl
theorem z92 : zeroT Try.prog 92 = some [.nilFunc] := by kernel_rfl
theorem sc93 : scT Try.prog 93 = true := by kernel_rfl
theorem z93 : zeroT Try.prog 93 = some [.nilFunc] := by kernel_rfl
theorem sc94 : scT Try.prog 94 = true := by kernel_rfl
theorem z94 : zeroT Try.prog 94 = some [.nilFunc] := by kernel_rfl
theorem sc95 : scT Try.prog 95 = true := by kernel_rfl
theorem z95 : zeroT Try.prog 95 = some [.nilFunc] := by kernel_rfl
theorem ty96 : aggT Try.prog 96 2 = true := by kernel_rfl
theorem z96 : zeroT Try.prog 96 = some [.int .i64 0, .int .i64 0] := by kernel_rfl
theorem fld96_0 : fldT Try.prog 96 0 = some 0 := by kernel_rfl
theorem fld96_1 : fldT Try.prog 96 1 = some 1 := by kernel_rfl
theorem eg96 : (Try.prog).eqGuardType (Try.prog).depth 96 = false := by kernel_rfl
theorem eqr96 (x0 y0 : Int) (x1 y1 : Int) (w : World) : (Op.equalIn 10000 96 (.agg #[.int .i64 x0, .int .i64 x1]) (.agg #[.int .i64 y0, .int .i64 y1])).run Try.prog w = .ok (decide (x0 = y0) && decide (x1 = y1)) w := by
  have hp : Try.prog.stoodInHeld 96 = false := by kernel_rfl
  have ht : Try.prog.underlying 96 = some (.struct (Try.prog.fieldsOf 96)) := by kernel_rfl
  rw [run_equalIn_agg (d := 9999) _ _ _ _ ht hp]
  by_cases h0 : x0 = y0 <;> by_cases h1 : x1 = y1 <;> simp [Program.fieldsOf, Try.underlying96, go_sem, Op.eqFields, h0, h1]
theorem sz96 : (Try.prog.info? 96).map (·.size) = some 2 := by kernel_rfl
theorem sc97 : scT Try.prog 97 = true := by kernel_rfl
theorem z97 : zeroT Try.prog 97 = some [.nilFunc] := by kernel_rfl
theorem sc98 : scT Try.prog 98 = true := by kernel_rfl
theorem ty99 : aggT Try.prog 99 8 = true := by kernel_rfl
theorem z99 : zeroT Try.prog 99 = some [.int .i64 0, .int .i64 0, .int .i64 0, .int .i64 0, .int .i64 0, .int .i64 0, .int .i64 0, .int .i64 0] := by kernel_rfl
theorem ar99 : Try.prog.underlying 99 = some (.array 4 96) := by kernel_rfl
theorem sz99 : (Try.prog.info? 99).map (·.size) = some 8 := by kernel_rfl
theorem sc100 : scT Try.prog 100 = true := by kernel_rfl
theorem z100 : zeroT Try.prog 100 = some [.nilFunc] := by kernel_rfl
theorem ty101 : aggT Try.prog 101 3 = true := by kernel_rfl
theorem z101 : zeroT Try.prog 101 = some [.bool false, .bool false, .bool false] := by kernel_rfl
theorem fld101_0 : fldT Try.prog 101 0 = some 0 := by kernel_rfl
theorem fld101_1 : fldT Try.prog 101 1 = some 1 := by kernel_rfl
theorem fld101_2 : fldT Try.prog 101 2 = some 2 := by kernel_rfl
theorem sz101 : (Try.prog.info? 101).map (·.size) = some 3 := by kernel_rfl
theorem ty102 : aggT Try.prog 102 3 = true := by kernel_rfl
theorem z102 : zeroT Try.prog 102 = some [.bool false, .bool false, .bool false] := by kernel_rfl
theorem fld102_0 : fldT Try.prog 102 0 = some 0 := by kernel_rfl
theorem fld102_1 : fldT Try.prog 102 1 = some 1 := by kernel_rfl
theorem fld102_2 : fldT Try.prog 102 2 = some 2 := by kernel_rfl
theorem eg102 : (Try.prog).eqGuardType (Try.prog).depth 102 = false := by kernel_rfl
theorem eqr102 (x0 y0 : Bool) (x1 y1 : Bool) (x2 y2 : Bool) (w : World) : (Op.equalIn 10000 102 (.agg #[.bool x0, .bool x1, .bool x2]) (.agg #[.bool y0, .bool y1, .bool y2])).run Try.prog w = .ok (decide (x0 = y0) && decide (x1 = y1) && decide (x2 = y2)) w := by
  have hp : Try.prog.stoodInHeld 102 = false := by kernel_rfl
  have ht : Try.prog.underlying 102 = some (.struct (Try.prog.fieldsOf 102)) := by kernel_rfl
  rw [run_equalIn_agg (d := 9999) _ _ _ _ ht hp]
  by_cases h0 : x0 = y0 <;> by_cases h1 : x1 = y1 <;> by_cases h2 : x2 = y2 <;> simp [Program.fieldsOf, Try.underlying102, go_sem, Op.eqFields, h0, h1, h2]
theorem sz102 : (Try.prog.info? 102).map (·.size) = some 3 := by kernel_rfl
theorem ty103 : aggT Try.prog 103 27 = true := by kernel_rfl
theorem z103 : zeroT Try.prog 103 = some [.bool false, .bool false, .bool false, .bool false, .bool false, .bool false, .bool false, .bool false, .bool false, .bool false, .bool false, .bool false, .bool false, .bool false, .bool false, .bool false, .bool false, .bool false, .bool false, .bool false, .bool false, .bool false, .bool false, .bool false, .bool false, .bool false, .bool false] := by kernel_rfl
theorem ar103 : Try.prog.underlying 103 = some (.array 9 102) := by kernel_rfl
theorem sz103 : (Try.prog.info? 103).map (·.size) = some 27 := by kernel_rfl
theorem sc104 : scT Try.prog 104 = true := by kernel_rfl
theorem z104 : zeroT Try.prog 104 = some [.nilFunc] := by kernel_rfl
theorem sc105 : scT Try.prog 105 = true := by kernel_rfl
theorem z105 : zeroT Try.prog 105 = some [.nilFunc] := by kernel_rfl
theorem sc106 : scT Try.prog 106 = true := by kernel_rfl
theorem z106 : zeroT Try.prog 106 = some [.nilFunc] := by kernel_rfl
theorem sc107 : scT Try.prog 107 = true := by kernel_rfl
theorem z107 : zeroT Try.prog 107 = some [.nilFunc] := by kernel_rfl
theorem sc108 : scT Try.prog 108 = true := by kernel_rfl
theorem z108 : zeroT Try.prog 108 = some [.nilFunc] := by kernel_rfl
theorem sc109 : scT Try.prog 109 = true := by kernel_rfl
theorem z109 : zeroT Try.prog 109 = some [.nilFunc] := by kernel_rfl
theorem sc110 : scT Try.prog 110 = true := by kernel_rfl
theorem z110 : zeroT Try.prog 110 = some [.nilFunc] := by kernel_rfl
theorem sc111 : scT Try.prog 111 = true := by kernel_rfl
theorem sc112 : scT Try.prog 112 = true := by kernel_rfl
theorem z112 : zeroT Try.prog 112 = some [.nilFunc] := by kernel_rfl
theorem sc113 : scT Try.prog 113 = true := by kernel_rfl
theorem sc114 : scT Try.prog 114 = true := by kernel_rfl
theorem z114 : zeroT Try.prog 114 = some [.nilFunc] := by kernel_rfl
theorem sc115 : scT Try.prog 115 = true := by kernel_rfl
theorem z115 : zeroT Try.prog 115 = some [.nilFunc] := by kernel_rfl
theorem sc116 : scT Try.prog 116 = true := by kernel_rfl
theorem z116 : zeroT Try.prog 116 = some [.nilFunc] := by kernel_rfl
theorem sc117 : scT Try.prog 117 = true := by kernel_rfl
theorem z117 : zeroT Try.prog 117 = some [.nilFunc] := by kernel_rfl
theorem sc118 : scT Try.prog 118 = true := by kernel_rfl
theorem z118 : zeroT Try.prog 118 = some [.nilFunc] := by kernel_rfl
theorem sc119 : scT Try.prog 119 = true := by kernel_rfl
theorem z119 : zeroT Try.prog 119 = some [.nilFunc] := by kernel_rfl
theorem sc120 : scT Try.prog 120 = true := by kernel_rfl
theorem z120 : zeroT Try.prog 120 = some [.nilFunc] := by kernel_rfl
theorem sc121 : scT Try.prog 121 = true := by kernel_rfl
theorem z121 : zeroT Try.prog 121 = some [.nilFunc] := by kernel_rfl
theorem sc122 : scT Try.prog 122 = true := by kernel_rfl
theorem z122 : zeroT Try.prog 122 = some [.nilFunc] := by kernel_rfl
theorem sc123 : scT Try.prog 123 = true := by kernel_rfl
theorem z123 : zeroT Try.prog 123 = some [.nilFunc] := by kernel_rfl
theorem sc124 : scT Try.prog 124 = true := by kernel_rfl
theorem z124 : zeroT Try.prog 124 = some [.nilFunc] := by kernel_rfl
theorem sc125 : scT Try.prog 125 = true := by kernel_rfl
theorem z125 : zeroT Try.prog 125 = some [.nilFunc] := by kernel_rfl
theorem sz126 : (Try.prog.info? 126).map (·.size) = some 4 := by kernel_rfl
theorem sz127 : (Try.prog.info? 127).map (·.size) = some 4 := by kernel_rfl
theorem ty128 : aggT Try.prog 128 0 = true := by kernel_rfl
theorem z128 : zeroT Try.prog 128 = some [] := by kernel_rfl
theorem ar128 : Try.prog.underlying 128 = some (.array 0 16) := by kernel_rfl
theorem sz128 : (Try.prog.info? 128).map (·.size) = some 0 := by kernel_rfl
theorem ty129 : aggT Try.prog 129 0 = true := by kernel_rfl
theorem z129 : zeroT Try.prog 129 = some [] := by kernel_rfl
theorem sz129 : (Try.prog.info? 129).map (·.size) = some 0 := by kernel_rfl
theorem ty130 : aggT Try.prog 130 0 = true := by kernel_rfl
theorem z130 : zeroT Try.prog 130 = some [] := by kernel_rfl
theorem sz130 : (Try.prog.info? 130).map (·.size) = some 0 := by kernel_rfl
theorem sc131 : scT Try.prog 131 = true := by kernel_rfl
theorem z131 : zeroT Try.prog 131 = some [.nilFunc] := by kernel_rfl
theorem sc132 : scT Try.prog 132 = true := by kernel_rfl
theorem z132 : zeroT Try.prog 132 = some [.int .u32 0] := by kernel_rfl
theorem ik132 : Try.prog.underlying 132 = some (.int .u32) := by kernel_rfl
theorem sz132 : (Try.prog.info? 132).map (·.size) = some 1 := by kernel_rfl
theorem sc133 : scT Try.prog 133 = true := by kernel_rfl
theorem z133 : zeroT Try.prog 133 = some [.int .u8 0] := by kernel_rfl
theorem ik133 : Try.prog.underlying 133 = some (.int .u8) := by kernel_rfl
theorem sz133 : (Try.prog.info? 133).map (·.size) = some 1 := by kernel_rfl
theorem sc134 : scT Try.prog 134 = true := by kernel_rfl
theorem z134 : zeroT Try.prog 134 = some [.int .u8 0] := by kernel_rfl
theorem ik134 : Try.prog.underlying 134 = some (.int .u8) := by kernel_rfl
theorem sz134 : (Try.prog.info? 134).map (·.size) = some 1 := by kernel_rfl
theorem sc135 : scT Try.prog 135 = true := by kernel_rfl
theorem z135 : zeroT Try.prog 135 = some [.nilFunc] := by kernel_rfl
theorem sc136 : scT Try.prog 136 = true := by kernel_rfl
theorem sc137 : scT Try.prog 137 = true := by kernel_rfl
theorem z137 : zeroT Try.prog 137 = some [.int .i32 0] := by kernel_rfl
theorem ik137 : Try.prog.underlying 137 = some (.int .i32) := by kernel_rfl
theorem sz137 : (Try.prog.info? 137).map (·.size) = some 1 := by kernel_rfl
theorem sc138 : scT Try.prog 138 = true := by kernel_rfl
theorem z138 : zeroT Try.prog 138 = some [.int .i32 0] := by kernel_rfl
theorem ik138 : Try.prog.underlying 138 = some (.int .i32) := by kernel_rfl
theorem sz138 : (Try.prog.info? 138).map (·.size) = some 1 := by kernel_rfl
theorem sz139 : (Try.prog.info? 139).map (·.size) = some 11 := by kernel_rfl
theorem sz140 : (Try.prog.info? 140).map (·.size) = some 11 := by kernel_rfl
theorem fok2 : FnOK Try.prog 2 = true := by kernel_rfl
theorem fok3 : FnOK Try.prog 3 = true := by kernel_rfl
theorem fok4 : FnOK Try.prog 4 = true := by kernel_rfl
theorem fok5 : FnOK Try.prog 5 = true := by kernel_rfl
theorem fok6 : FnOK Try.prog 6 = true := by kernel_rfl
theorem fok7 : FnOK Try.prog 7 = true := by kernel_rfl
theorem fok8 : FnOK Try.prog 8 = true := by kernel_rfl
theorem fok9 : FnOK Try.prog 9 = true := by kernel_rfl
theorem fok10 : FnOK Try.prog 10 = true := by kernel_rfl
theorem fok11 : FnOK Try.prog 11 = true := by kernel_rfl
theorem fok12 : FnOK Try.prog 12 = true := by kernel_rfl
theorem fok13 : FnOK Try.prog 13 = true := by kernel_rfl
theorem fok14 : FnOK Try.prog 14 = true := by kernel_rfl
theorem fok15 : FnOK Try.prog 15 = true := by kernel_rfl
theorem fok16 : FnOK Try.prog 16 = true := by kernel_rfl
theorem fok17 : FnOK Try.prog 17 = true := by kernel_rfl
theorem fok18 : FnOK Try.prog 18 = true := by kernel_rfl
theorem fok19 : FnOK Try.prog 19 = true := by kernel_rfl
theorem fok20 : FnOK Try.prog 20 = true := by kernel_rfl
theorem fok21 : FnOK Try.prog 21 = true := by kernel_rfl
theorem fok22 : FnOK Try.prog 22 = true := by kernel_rfl
theorem fok23 : FnOK Try.prog 23 = true := by kernel_rfl
theorem fok24 : FnOK Try.prog 24 = true := by kernel_rfl
theorem fok25 : FnOK Try.prog 25 = true := by kernel_rfl
theorem fok26 : FnOK Try.prog 26 = true := by kernel_rfl
theorem fok27 : FnOK Try.prog 27 = true := by kernel_rfl
theorem fok28 : FnOK Try.prog 28 = true := by kernel_rfl
theorem fok29 : FnOK Try.prog 29 = true := by kernel_rfl
theorem fok30 : FnOK Try.prog 30 = true := by kernel_rfl
theorem fok31 : FnOK Try.prog 31 = true := by kernel_rfl
theorem fok32 : FnOK Try.prog 32 = true := by kernel_rfl
theorem fok33 : FnOK Try.prog 33 = true := by kernel_rfl
theorem fok34 : FnOK Try.prog 34 = true := by kernel_rfl
theorem fok35 : FnOK Try.prog 35 = true := by kernel_rfl
theorem fok36 : FnOK Try.prog 36 = true := by kernel_rfl
theorem fok37 : FnOK Try.prog 37 = true := by kernel_rfl
theorem fok38 : FnOK Try.prog 38 = true := by kernel_rfl
theorem fok39 : FnOK Try.prog 39 = true := by kernel_rfl
theorem fok40 : FnOK Try.prog 40 = true := by kernel_rfl
theorem fok41 : FnOK Try.prog 41 = true := by kernel_rfl
theorem fok42 : FnOK Try.prog 42 = true := by kernel_rfl
theorem fok43 : FnOK Try.prog 43 = true := by kernel_rfl
theorem fok44 : FnOK Try.prog 44 = true := by kernel_rfl
theorem fok45 : FnOK Try.prog 45 = true := by kernel_rfl
theorem fok46 : FnOK Try.prog 46 = true := by kernel_rfl
theorem fok47 : FnOK Try.prog 47 = true := by kernel_rfl
theorem fok48 : FnOK Try.prog 48 = true := by kernel_rfl
theorem fok49 : FnOK Try.prog 49 = true := by kernel_rfl
theorem fok50 : FnOK Try.prog 50 = true := by kernel_rfl
theorem fok51 : FnOK Try.prog 51 = true := by kernel_rfl
theorem fok52 : FnOK Try.prog 52 = true := by kernel_rfl
theorem fok53 : FnOK Try.prog 53 = true := by kernel_rfl
theorem fok54 : FnOK Try.prog 54 = true := by kernel_rfl
theorem fok55 : FnOK Try.prog 55 = true := by kernel_rfl
theorem fok56 : FnOK Try.prog 56 = true := by kernel_rfl
theorem fok57 : FnOK Try.prog 57 = true := by kernel_rfl
theorem fok58 : FnOK Try.prog 58 = true := by kernel_rfl
theorem fok59 : FnOK Try.prog 59 = true := by kernel_rfl
theorem fok60 : FnOK Try.prog 60 = true := by kernel_rfl
theorem fok61 : FnOK Try.prog 61 = true := by kernel_rfl
theorem fok62 : FnOK Try.prog 62 = true := by kernel_rfl
theorem fok63 : FnOK Try.prog 63 = true := by kernel_rfl
theorem fok64 : FnOK Try.prog 64 = true := by kernel_rfl
theorem fok65 : FnOK Try.prog 65 = true := by kernel_rfl
theorem fok66 : FnOK Try.prog 66 = true := by kernel_rfl
theorem fok67 : FnOK Try.prog 67 = true := by kernel_rfl
theorem fok68 : FnOK Try.prog 68 = true := by kernel_rfl
theorem fok69 : FnOK Try.prog 69 = true := by kernel_rfl
theorem fok70 : FnOK Try.prog 70 = true := by kernel_rfl
theorem fok71 : FnOK Try.prog 71 = true := by kernel_rfl
theorem fok72 : FnOK Try.prog 72 = true := by kernel_rfl
theorem fok73 : FnOK Try.prog 73 = true := by kernel_rfl
theorem fok74 : FnOK Try.prog 74 = true := by kernel_rfl
theorem fok75 : FnOK Try.prog 75 = true := by kernel_rfl
theorem fok76 : FnOK Try.prog 76 = true := by kernel_rfl
theorem fok77 : FnOK Try.prog 77 = true := by kernel_rfl
theorem fok78 : FnOK Try.prog 78 = true := by kernel_rfl
theorem fok79 : FnOK Try.prog 79 = true := by kernel_rfl
theorem fok80 : FnOK Try.prog 80 = true := by kernel_rfl
theorem fok81 : FnOK Try.prog 81 = true := by kernel_rfl
theorem fok82 : FnOK Try.prog 82 = true := by kernel_rfl
theorem fok83 : FnOK Try.prog 83 = true := by kernel_rfl
theorem fok84 : FnOK Try.prog 84 = true := by kernel_rfl
theorem fok85 : FnOK Try.prog 85 = true := by kernel_rfl
theorem fok86 : FnOK Try.prog 86 = true := by kernel_rfl
theorem fok87 : FnOK Try.prog 87 = true := by kernel_rfl
theorem fok88 : FnOK Try.prog 88 = true := by kernel_rfl
theorem fok89 : FnOK Try.prog 89 = true := by kernel_rfl
theorem fok90 : FnOK Try.prog 90 = true := by kernel_rfl
theorem fok91 : FnOK Try.prog 91 = true := by kernel_rfl
theorem fok92 : FnOK Try.prog 92 = true := by kernel_rfl
theorem fok93 : FnOK Try.prog 93 = true := by kernel_rfl
theorem fok94 : FnOK Try.prog 94 = true := by kernel_rfl
theorem fok95 : FnOK Try.prog 95 = true := by kernel_rfl
theorem fok96 : FnOK Try.prog 96 = true := by kernel_rfl
end Go.Proofs.Ytpmnfhifmmfglaa
