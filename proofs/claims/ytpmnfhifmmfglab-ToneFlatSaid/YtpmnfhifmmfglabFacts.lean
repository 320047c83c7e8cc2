/- Closed facts on the types and functions of the seat, each by looking. -/
import Derived.Test.YtpmnfhifmmfglabD7
import Derived.Test.YtpmnfhifmmfglabChecked
set_option linter.unusedVariables false
set_option linter.unusedSimpArgs false
set_option linter.unusedSectionVars false
namespace Go.Proofs.Ytpmnfhifmmfglab
open Go.RowKit
theorem sc1 : scT Try.prog 1 = true := by kernel_rfl
theorem z1 : zeroT Try.prog 1 = some [.nilFunc] := by kernel_rfl
theorem sc2 : scT Try.prog 2 = true := by kernel_rfl
theorem z2 : zeroT Try.prog 2 = some [.int .i64 0] := by kernel_rfl
theorem ik2 : Try.prog.underlying 2 = some (.int .i64) := by kernel_rfl
theorem sz2 : (Try.prog.info? 2).map (·.size) = some 1 := by kernel_rfl
theorem sc3 : scT Try.prog 3 = true := by kernel_rfl
theorem z3 : zeroT Try.prog 3 = some [.int .i64 0] := by kernel_rfl
theorem ik3 : Try.prog.underlying 3 = some (.int .i64) := by kernel_rfl
theorem sz3 : (Try.prog.info? 3).map (·.size) = some 1 := by kernel_rfl
theorem bo4 : Try.prog.underlying 4 = some .bool := by kernel_rfl
theorem sc4 : scT Try.prog 4 = true := by kernel_rfl
theorem z4 : zeroT Try.prog 4 = some [.bool false] := by kernel_rfl
theorem sz4 : (Try.prog.info? 4).map (·.size) = some 1 := by kernel_rfl
theorem sc5 : scT Try.prog 5 = true := by kernel_rfl
theorem z5 : zeroT Try.prog 5 = some [.int .u8 0] := by kernel_rfl
theorem ik5 : Try.prog.underlying 5 = some (.int .u8) := by kernel_rfl
theorem sz5 : (Try.prog.info? 5).map (·.size) = some 1 := by kernel_rfl
theorem sc6 : scT Try.prog 6 = true := by kernel_rfl
theorem z6 : zeroT Try.prog 6 = some [.int .u8 0] := by kernel_rfl
theorem ik6 : Try.prog.underlying 6 = some (.int .u8) := by kernel_rfl
theorem sz6 : (Try.prog.info? 6).map (·.size) = some 1 := by kernel_rfl
theorem ty7 : aggT Try.prog 7 4 = true := by kernel_rfl
theorem z7 : zeroT Try.prog 7 = some [.int .i64 0, .int .i64 0, .bool false, .int .u8 0] := by kernel_rfl
theorem fld7_0 : fldT Try.prog 7 0 = some 0 := by kernel_rfl
theorem fld7_1 : fldT Try.prog 7 1 = some 1 := by kernel_rfl
theorem fld7_2 : fldT Try.prog 7 2 = some 2 := by kernel_rfl
theorem fld7_3 : fldT Try.prog 7 3 = some 3 := by kernel_rfl
theorem sz7 : (Try.prog.info? 7).map (·.size) = some 4 := by kernel_rfl
theorem ty8 : aggT Try.prog 8 4 = true := by kernel_rfl
theorem z8 : zeroT Try.prog 8 = some [.int .i64 0, .int .i64 0, .bool false, .int .u8 0] := by kernel_rfl
theorem fld8_0 : fldT Try.prog 8 0 = some 0 := by kernel_rfl
theorem fld8_1 : fldT Try.prog 8 1 = some 1 := by kernel_rfl
theorem fld8_2 : fldT Try.prog 8 2 = some 2 := by kernel_rfl
theorem fld8_3 : fldT Try.prog 8 3 = some 3 := by kernel_rfl
theorem sz8 : (Try.prog.info? 8).map (·.size) = some 4 := by kernel_rfl
theorem sc9 : scT Try.prog 9 = true := by kernel_rfl
theorem z9 : zeroT Try.prog 9 = some [.string (bs ([]))] := by kernel_rfl
theorem st9 : Try.prog.underlying 9 = some .string := by kernel_rfl
theorem sz9 : (Try.prog.info? 9).map (·.size) = some 1 := by kernel_rfl
theorem sc10 : scT Try.prog 10 = true := by kernel_rfl
theorem z10 : zeroT Try.prog 10 = some [.string (bs ([]))] := by kernel_rfl
theorem st10 : Try.prog.underlying 10 = some .string := by kernel_rfl
theorem sz10 : (Try.prog.info? 10).map (·.size) = some 1 := by kernel_rfl
theorem sc11 : scT Try.prog 11 = true := by kernel_rfl
theorem z11 : zeroT Try.prog 11 = some [.string (bs ([]))] := by kernel_rfl
theorem st11 : Try.prog.underlying 11 = some .string := by kernel_rfl
theorem sz11 : (Try.prog.info? 11).map (·.size) = some 1 := by kernel_rfl
theorem sc12 : scT Try.prog 12 = true := by kernel_rfl
theorem z12 : zeroT Try.prog 12 = some [.int .u64 0] := by kernel_rfl
theorem ik12 : Try.prog.underlying 12 = some (.int .u64) := by kernel_rfl
theorem sz12 : (Try.prog.info? 12).map (·.size) = some 1 := by kernel_rfl
theorem ty13 : aggT Try.prog 13 2 = true := by kernel_rfl
theorem z13 : zeroT Try.prog 13 = some [.string (bs ([])), .int .u64 0] := by kernel_rfl
theorem fld13_0 : fldT Try.prog 13 0 = some 0 := by kernel_rfl
theorem fld13_1 : fldT Try.prog 13 1 = some 1 := by kernel_rfl
theorem sz13 : (Try.prog.info? 13).map (·.size) = some 2 := by kernel_rfl
theorem ty14 : aggT Try.prog 14 2 = true := by kernel_rfl
theorem z14 : zeroT Try.prog 14 = some [.string (bs ([])), .int .u64 0] := by kernel_rfl
theorem fld14_0 : fldT Try.prog 14 0 = some 0 := by kernel_rfl
theorem fld14_1 : fldT Try.prog 14 1 = some 1 := by kernel_rfl
theorem sz14 : (Try.prog.info? 14).map (·.size) = some 2 := by kernel_rfl
theorem sc15 : scT Try.prog 15 = true := by kernel_rfl
theorem sc16 : scT Try.prog 16 = true := by kernel_rfl
theorem sc17 : scT Try.prog 17 = true := by kernel_rfl
theorem sz18 : (Try.prog.info? 18).map (·.size) = some 1 := by kernel_rfl
theorem sz19 : (Try.prog.info? 19).map (·.size) = some 1 := by kernel_rfl
theorem sc20 : scT Try.prog 20 = true := by kernel_rfl
theorem sc21 : scT Try.prog 21 = true := by kernel_rfl
theorem z21 : zeroT Try.prog 21 = some [.int .i32 0] := by kernel_rfl
theorem ik21 : Try.prog.underlying 21 = some (.int .i32) := by kernel_rfl
theorem sz21 : (Try.prog.info? 21).map (·.size) = some 1 := by kernel_rfl
theorem sc22 : scT Try.prog 22 = true := by kernel_rfl
theorem z22 : zeroT Try.prog 22 = some [.slice none 0 0] := by kernel_rfl
theorem sl22 : slT Try.prog 22 34 3 24 = true := by kernel_rfl
theorem un22 : ∃ e, Try.prog.underlying 22 = some (.slice e) := ⟨_, (slT_spec sl22).1⟩
theorem sz22 : (Try.prog.info? 22).map (·.size) = some 1 := by kernel_rfl
theorem ty23 : aggT Try.prog 23 3 = true := by kernel_rfl
theorem z23 : zeroT Try.prog 23 = some [.int .i64 0, .int .i64 0, .slice none 0 0] := by kernel_rfl
theorem fld23_0 : fldT Try.prog 23 0 = some 0 := by kernel_rfl
theorem fld23_1 : fldT Try.prog 23 1 = some 1 := by kernel_rfl
theorem fld23_2 : fldT Try.prog 23 2 = some 2 := by kernel_rfl
theorem sz23 : (Try.prog.info? 23).map (·.size) = some 3 := by kernel_rfl
theorem ty24 : aggT Try.prog 24 3 = true := by kernel_rfl
theorem z24 : zeroT Try.prog 24 = some [.int .i64 0, .int .i64 0, .slice none 0 0] := by kernel_rfl
theorem fld24_0 : fldT Try.prog 24 0 = some 0 := by kernel_rfl
theorem fld24_1 : fldT Try.prog 24 1 = some 1 := by kernel_rfl
theorem fld24_2 : fldT Try.prog 24 2 = some 2 := by kernel_rfl
theorem sz24 : (Try.prog.info? 24).map (·.size) = some 3 := by kernel_rfl
theorem sc25 : scT Try.prog 25 = true := by kernel_rfl
theorem z25 : zeroT Try.prog 25 = some [.int .i64 0] := by kernel_rfl
theorem ik25 : Try.prog.underlying 25 = some (.int .i64) := by kernel_rfl
theorem sz25 : (Try.prog.info? 25).map (·.size) = some 1 := by kernel_rfl
theorem sc27 : scT Try.prog 27 = true := by kernel_rfl
theorem z27 : zeroT Try.prog 27 = some [.nilFunc] := by kernel_rfl
theorem sc28 : scT Try.prog 28 = true := by kernel_rfl
theorem z28 : zeroT Try.prog 28 = some [.nilFunc] := by kernel_rfl
theorem sc29 : scT Try.prog 29 = true := by kernel_rfl
theorem z29 : zeroT Try.prog 29 = some [.nilFunc] := by kernel_rfl
theorem sc30 : scT Try.prog 30 = true := by kernel_rfl
theorem z30 : zeroT Try.prog 30 = some [.nilFunc] := by kernel_rfl
theorem sc31 : scT Try.prog 31 = true := by kernel_rfl
theorem z31 : zeroT Try.prog 31 = some [.nilFunc] := by kernel_rfl
theorem sc32 : scT Try.prog 32 = true := by kernel_rfl
theorem z32 : zeroT Try.prog 32 = some [.nilFunc] := by kernel_rfl
theorem ty33 : aggT Try.prog 33 3 = true := by kernel_rfl
theorem z33 : zeroT Try.prog 33 = some [.int .i64 0, .int .i64 0, .int .i64 0] := by kernel_rfl
theorem fld33_0 : fldT Try.prog 33 0 = some 0 := by kernel_rfl
theorem fld33_1 : fldT Try.prog 33 1 = some 1 := by kernel_rfl
theorem fld33_2 : fldT Try.prog 33 2 = some 2 := by kernel_rfl
theorem sz33 : (Try.prog.info? 33).map (·.size) = some 3 := by kernel_rfl
theorem ty34 : aggT Try.prog 34 3 = true := by kernel_rfl
theorem z34 : zeroT Try.prog 34 = some [.int .i64 0, .int .i64 0, .int .i64 0] := by kernel_rfl
theorem fld34_0 : fldT Try.prog 34 0 = some 0 := by kernel_rfl
theorem fld34_1 : fldT Try.prog 34 1 = some 1 := by kernel_rfl
theorem fld34_2 : fldT Try.prog 34 2 = some 2 := by kernel_rfl
theorem eg34 : (Try.prog).eqGuardType (Try.prog).depth 34 = false := by kernel_rfl
theorem eqr34 (x0 y0 : Int) (x1 y1 : Int) (x2 y2 : Int) (w : World) : (Op.equalIn 10000 34 (.agg #[.int .i64 x0, .int .i64 x1, .int .i64 x2]) (.agg #[.int .i64 y0, .int .i64 y1, .int .i64 y2])).run Try.prog w = .ok (decide (x0 = y0) && decide (x1 = y1) && decide (x2 = y2)) w := by
  have hp : Try.prog.stoodInHeld 34 = false := by kernel_rfl
  have ht : Try.prog.underlying 34 = some (.struct (Try.prog.fieldsOf 34)) := by kernel_rfl
  rw [run_equalIn_agg (d := 9999) _ _ _ _ ht hp]
  by_cases h0 : x0 = y0 <;> by_cases h1 : x1 = y1 <;> by_cases h2 : x2 = y2 <;> simp [Program.fieldsOf, Try.underlying34, go_sem, Op.eqFields, h0, h1, h2]
theorem sz34 : (Try.prog.info? 34).map (·.size) = some 3 := by kernel_rfl
theorem sc35 : scT Try.prog 35 = true := by kernel_rfl
theorem z35 : zeroT Try.prog 35 = some [.nilFunc] := by kernel_rfl
theorem ty36 : aggT Try.prog 36 4 = true := by kernel_rfl
theorem z36 : zeroT Try.prog 36 = some [.int .i64 0, .int .i64 0, .int .i64 0, .int .i64 0] := by kernel_rfl
theorem ar36 : Try.prog.underlying 36 = some (.array 4 3) := by kernel_rfl
theorem sz36 : (Try.prog.info? 36).map (·.size) = some 4 := by kernel_rfl
theorem sc37 : scT Try.prog 37 = true := by kernel_rfl
theorem z37 : zeroT Try.prog 37 = some [.slice none 0 0] := by kernel_rfl
theorem sl37 : slT Try.prog 37 106 2 16 = true := by kernel_rfl
theorem un37 : ∃ e, Try.prog.underlying 37 = some (.slice e) := ⟨_, (slT_spec sl37).1⟩
theorem sz37 : (Try.prog.info? 37).map (·.size) = some 1 := by kernel_rfl
theorem ty38 : aggT Try.prog 38 3 = true := by kernel_rfl
theorem z38 : zeroT Try.prog 38 = some [.int .i64 0, .int .i64 0, .int .i64 0] := by kernel_rfl
theorem ar38 : Try.prog.underlying 38 = some (.array 3 3) := by kernel_rfl
theorem sz38 : (Try.prog.info? 38).map (·.size) = some 3 := by kernel_rfl
theorem ty39 : aggT Try.prog 39 9 = true := by kernel_rfl
theorem z39 : zeroT Try.prog 39 = some [.int .i64 0, .int .i64 0, .int .i64 0, .int .i64 0, .int .i64 0, .int .i64 0, .int .i64 0, .int .i64 0, .int .i64 0] := by kernel_rfl
theorem ar39 : Try.prog.underlying 39 = some (.array 9 3) := by kernel_rfl
theorem sz39 : (Try.prog.info? 39).map (·.size) = some 9 := by kernel_rfl
theorem sc40 : scT Try.prog 40 = true := by kernel_rfl
theorem z40 : zeroT Try.prog 40 = some [.slice none 0 0] := by kernel_rfl
theorem sl40 : slT Try.prog 40 70 2 16 = true := by kernel_rfl
theorem un40 : ∃ e, Try.prog.underlying 40 = some (.slice e) := ⟨_, (slT_spec sl40).1⟩
theorem sz40 : (Try.prog.info? 40).map (·.size) = some 1 := by kernel_rfl
theorem ty41 : aggT Try.prog 41 21 = true := by kernel_rfl
theorem z41 : zeroT Try.prog 41 = some [.int .i64 0, .int .i64 0, .int .i64 0, .int .i64 0, .int .i64 0, .int .i64 0, .slice none 0 0, .int .i64 0, .int .i64 0, .int .i64 0, .int .i64 0, .int .i64 0, .int .i64 0, .int .i64 0, .int .i64 0, .int .i64 0, .int .i64 0, .int .i64 0, .int .i64 0, .slice none 0 0, .int .i64 0] := by kernel_rfl
theorem fld41_0 : fldT Try.prog 41 0 = some 0 := by kernel_rfl
theorem fld41_1 : fldT Try.prog 41 1 = some 1 := by kernel_rfl
theorem fld41_2 : fldT Try.prog 41 2 = some 5 := by kernel_rfl
theorem fld41_3 : fldT Try.prog 41 3 = some 6 := by kernel_rfl
theorem fld41_4 : fldT Try.prog 41 4 = some 7 := by kernel_rfl
theorem fld41_5 : fldT Try.prog 41 5 = some 10 := by kernel_rfl
theorem fld41_6 : fldT Try.prog 41 6 = some 19 := by kernel_rfl
theorem fld41_7 : fldT Try.prog 41 7 = some 20 := by kernel_rfl
theorem sz41 : (Try.prog.info? 41).map (·.size) = some 21 := by kernel_rfl
theorem ty42 : aggT Try.prog 42 21 = true := by kernel_rfl
theorem z42 : zeroT Try.prog 42 = some [.int .i64 0, .int .i64 0, .int .i64 0, .int .i64 0, .int .i64 0, .int .i64 0, .slice none 0 0, .int .i64 0, .int .i64 0, .int .i64 0, .int .i64 0, .int .i64 0, .int .i64 0, .int .i64 0, .int .i64 0, .int .i64 0, .int .i64 0, .int .i64 0, .int .i64 0, .slice none 0 0, .int .i64 0] := by kernel_rfl
theorem fld42_0 : fldT Try.prog 42 0 = some 0 := by kernel_rfl
theorem fld42_1 : fldT Try.prog 42 1 = some 1 := by kernel_rfl
theorem fld42_2 : fldT Try.prog 42 2 = some 5 := by kernel_rfl
theorem fld42_3 : fldT Try.prog 42 3 = some 6 := by kernel_rfl
theorem fld42_4 : fldT Try.prog 42 4 = some 7 := by kernel_rfl
theorem fld42_5 : fldT Try.prog 42 5 = some 10 := by kernel_rfl
theorem fld42_6 : fldT Try.prog 42 6 = some 19 := by kernel_rfl
theorem fld42_7 : fldT Try.prog 42 7 = some 20 := by kernel_rfl
theorem sz42 : (Try.prog.info? 42).map (·.size) = some 21 := by kernel_rfl
theorem sc43 : scT Try.prog 43 = true := by kernel_rfl
theorem z43 : zeroT Try.prog 43 = some [.slice none 0 0] := by kernel_rfl
theorem sl43 : slT Try.prog 43 3 1 8 = true := by kernel_rfl
theorem un43 : ∃ e, Try.prog.underlying 43 = some (.slice e) := ⟨_, (slT_spec sl43).1⟩
theorem sz43 : (Try.prog.info? 43).map (·.size) = some 1 := by kernel_rfl
theorem ty44 : aggT Try.prog 44 3 = true := by kernel_rfl
theorem z44 : zeroT Try.prog 44 = some [.int .i64 0, .int .i64 0, .slice none 0 0] := by kernel_rfl
theorem fld44_0 : fldT Try.prog 44 0 = some 0 := by kernel_rfl
theorem fld44_1 : fldT Try.prog 44 1 = some 1 := by kernel_rfl
theorem fld44_2 : fldT Try.prog 44 2 = some 2 := by kernel_rfl
theorem sz44 : (Try.prog.info? 44).map (·.size) = some 3 := by kernel_rfl
theorem ty45 : aggT Try.prog 45 3 = true := by kernel_rfl
theorem z45 : zeroT Try.prog 45 = some [.int .i64 0, .int .i64 0, .slice none 0 0] := by kernel_rfl
theorem fld45_0 : fldT Try.prog 45 0 = some 0 := by kernel_rfl
theorem fld45_1 : fldT Try.prog 45 1 = some 1 := by kernel_rfl
theorem fld45_2 : fldT Try.prog 45 2 = some 2 := by kernel_rfl
theorem sz45 : (Try.prog.info? 45).map (·.size) = some 3 := by kernel_rfl
theorem sc46 : scT Try.prog 46 = true := by kernel_rfl
theorem z46 : zeroT Try.prog 46 = some [.nilFunc] := by kernel_rfl
theorem sc47 : scT Try.prog 47 = true := by kernel_rfl
theorem z47 : zeroT Try.prog 47 = some [.nilFunc] := by kernel_rfl
theorem sc48 : scT Try.prog 48 = true := by kernel_rfl
theorem z48 : zeroT Try.prog 48 = some [.nilFunc] := by kernel_rfl
theorem sc49 : scT Try.prog 49 = true := by kernel_rfl
theorem z49 : zeroT Try.prog 49 = some [.nilFunc] := by kernel_rfl
theorem sc50 : scT Try.prog 50 = true := by kernel_rfl
theorem z50 : zeroT Try.prog 50 = some [.nilFunc] := by kernel_rfl
theorem sc51 : scT Try.prog 51 = true := by kernel_rfl
theorem z51 : zeroT Try.prog 51 = some [.nilFunc] := by kernel_rfl
theorem sc52 : scT Try.prog 52 = true := by kernel_rfl
theorem z52 : zeroT Try.prog 52 = some [.nilFunc] := by kernel_rfl
theorem sc53 : scT Try.prog 53 = true := by kernel_rfl
theorem z53 : zeroT Try.prog 53 = some [.nilFunc] := by kernel_rfl
theorem sc54 : scT Try.prog 54 = true := by kernel_rfl
theorem z54 : zeroT Try.prog 54 = some [.nilFunc] := by kernel_rfl
theorem sc55 : scT Try.prog 55 = true := by kernel_rfl
theorem z55 : zeroT Try.prog 55 = some [.nilFunc] := by kernel_rfl
theorem sc56 : scT Try.prog 56 = true := by kernel_rfl
theorem z56 : zeroT Try.prog 56 = some [.nilFunc] := by kernel_rfl
theorem sc57 : scT Try.prog 57 = true := by kernel_rfl
theorem z57 : zeroT Try.prog 57 = some [.nilFunc] := by kernel_rfl
theorem sc58 : scT Try.prog 58 = true := by kernel_rfl
theorem z58 : zeroT Try.prog 58 = some [.nilFunc] := by kernel_rfl
theorem sc59 : scT Try.prog 59 = true := by kernel_rfl
theorem z59 : zeroT Try.prog 59 = some [.nilFunc] := by kernel_rfl
theorem sc60 : scT Try.prog 60 = true := by kernel_rfl
theorem z60 : zeroT Try.prog 60 = some [.int .u64 0] := by kernel_rfl
theorem ik60 : Try.prog.underlying 60 = some (.int .u64) := by kernel_rfl
theorem sz60 : (Try.prog.info? 60).map (·.size) = some 1 := by kernel_rfl
theorem sc61 : scT Try.prog 61 = true := by kernel_rfl
theorem z61 : zeroT Try.prog 61 = some [.nilFunc] := by kernel_rfl
theorem sc62 : scT Try.prog 62 = true := by kernel_rfl
theorem z62 : zeroT Try.prog 62 = some [.nilFunc] := by kernel_rfl
theorem sc63 : scT Try.prog 63 = true := by kernel_rfl
theorem z63 : zeroT Try.prog 63 = some [.nilFunc] := by kernel_rfl
theorem sc64 : scT Try.prog 64 = true := by kernel_rfl
theorem z64 : zeroT Try.prog 64 = some [.nilFunc] := by kernel_rfl
theorem sc65 : scT Try.prog 65 = true := by kernel_rfl
theorem z65 : zeroT Try.prog 65 = some [.nilFunc] := by kernel_rfl
theorem sc66 : scT Try.prog 66 = true := by kernel_rfl
theorem z66 : zeroT Try.prog 66 = some [.nilFunc] := by kernel_rfl
theorem sc68 : scT Try.prog 68 = true := by kernel_rfl
theorem z68 : zeroT Try.prog 68 = some [.nilFunc] := by kernel_rfl
theorem ty69 : aggT Try.prog 69 2 = true := by kernel_rfl
theorem z69 : zeroT Try.prog 69 = some [.int .i64 0, .int .i64 0] := by kernel_rfl
theorem fld69_0 : fldT Try.prog 69 0 = some 0 := by kernel_rfl
theorem fld69_1 : fldT Try.prog 69 1 = some 1 := by kernel_rfl
theorem sz69 : (Try.prog.info? 69).map (·.size) = some 2 := by kernel_rfl
theorem ty70 : aggT Try.prog 70 2 = true := by kernel_rfl
theorem z70 : zeroT Try.prog 70 = some [.int .i64 0, .int .i64 0] := by kernel_rfl
theorem fld70_0 : fldT Try.prog 70 0 = some 0 := by kernel_rfl
theorem fld70_1 : fldT Try.prog 70 1 = some 1 := by kernel_rfl
theorem eg70 : (Try.prog).eqGuardType (Try.prog).depth 70 = false := by kernel_rfl
theorem eqr70 (x0 y0 : Int) (x1 y1 : Int) (w : World) : (Op.equalIn 10000 70 (.agg #[.int .i64 x0, .int .i64 x1]) (.agg #[.int .i64 y0, .int .i64 y1])).run Try.prog w = .ok (decide (x0 = y0) && decide (x1 = y1)) w := by
  have hp : Try.prog.stoodInHeld 70 = false := by kernel_rfl
  have ht : Try.prog.underlying 70 = some (.struct (Try.prog.fieldsOf 70)) := by kernel_rfl
  rw [run_equalIn_agg (d := 9999) _ _ _ _ ht hp]
  by_cases h0 : x0 = y0 <;> by_cases h1 : x1 = y1 <;> simp [Program.fieldsOf, Try.underlying70, go_sem, Op.eqFields, h0, h1]
theorem sz70 : (Try.prog.info? 70).map (·.size) = some 2 := by kernel_rfl
theorem sc71 : scT Try.prog 71 = true := by kernel_rfl
theorem z71 : zeroT Try.prog 71 = some [.nilFunc] := by kernel_rfl
theorem sc72 : scT Try.prog 72 = true := by kernel_rfl
theorem z72 : zeroT Try.prog 72 = some [.nilFunc] := by kernel_rfl
theorem ty73 : aggT Try.prog 73 21 = true := by kernel_rfl
theorem z73 : zeroT Try.prog 73 = some [.int .i64 0, .int .i64 0, .int .i64 0, .int .i64 0, .int .i64 0, .int .i64 0, .slice none 0 0, .int .i64 0, .int .i64 0, .int .i64 0, .int .i64 0, .int .i64 0, .int .i64 0, .int .i64 0, .int .i64 0, .int .i64 0, .int .i64 0, .int .i64 0, .int .i64 0, .slice none 0 0, .int .i64 0] := by kernel_rfl
theorem fld73_0 : fldT Try.prog 73 0 = some 0 := by kernel_rfl
theorem sz73 : (Try.prog.info? 73).map (·.size) = some 21 := by kernel_rfl
theorem ty74 : aggT Try.prog 74 21 = true := by kernel_rfl
theorem z74 : zeroT Try.prog 74 = some [.int .i64 0, .int .i64 0, .int .i64 0, .int .i64 0, .int .i64 0, .int .i64 0, .slice none 0 0, .int .i64 0, .int .i64 0, .int .i64 0, .int .i64 0, .int .i64 0, .int .i64 0, .int .i64 0, .int .i64 0, .int .i64 0, .int .i64 0, .int .i64 0, .int .i64 0, .slice none 0 0, .int .i64 0] := by kernel_rfl
theorem fld74_0 : fldT Try.prog 74 0 = some 0 := by kernel_rfl
theorem sz74 : (Try.prog.info? 74).map (·.size) = some 21 := by kernel_rfl
theorem ty75 : aggT Try.prog 75 21 = true := by kernel_rfl
theorem z75 : zeroT Try.prog 75 = some [.int .i64 0, .int .i64 0, .int .i64 0, .int .i64 0, .int .i64 0, .int .i64 0, .slice none 0 0, .int .i64 0, .int .i64 0, .int .i64 0, .int .i64 0, .int .i64 0, .int .i64 0, .int .i64 0, .int .i64 0, .int .i64 0, .int .i64 0, .int .i64 0, .int .i64 0, .slice none 0 0, .int .i64 0] := by kernel_rfl
theorem fld75_0 : fldT Try.prog 75 0 = some 0 := by kernel_rfl
theorem sz75 : (Try.prog.info? 75).map (·.size) = some 21 := by kernel_rfl
theorem ty76 : aggT Try.prog 76 21 = true := by kernel_rfl
theorem z76 : zeroT Try.prog 76 = some [.int .i64 0, .int .i64 0, .int .i64 0, .int .i64 0, .int .i64 0, .int .i64 0, .slice none 0 0, .int .i64 0, .int .i64 0, .int .i64 0, .int .i64 0, .int .i64 0, .int .i64 0, .int .i64 0, .int .i64 0, .int .i64 0, .int .i64 0, .int .i64 0, .int .i64 0, .slice none 0 0, .int .i64 0] := by kernel_rfl
theorem fld76_0 : fldT Try.prog 76 0 = some 0 := by kernel_rfl
theorem sz76 : (Try.prog.info? 76).map (·.size) = some 21 := by kernel_rfl
theorem ty77 : aggT Try.prog 77 21 = true := by kernel_rfl
theorem z77 : zeroT Try.prog 77 = some [.int .i64 0, .int .i64 0, .int .i64 0, .int .i64 0, .int .i64 0, .int .i64 0, .slice none 0 0, .int .i64 0, .int .i64 0, .int .i64 0, .int .i64 0, .int .i64 0, .int .i64 0, .int .i64 0, .int .i64 0, .int .i64 0, .int .i64 0, .int .i64 0, .int .i64 0, .slice none 0 0, .int .i64 0] := by kernel_rfl
theorem fld77_0 : fldT Try.prog 77 0 = some 0 := by kernel_rfl
theorem sz77 : (Try.prog.info? 77).map (·.size) = some 21 := by kernel_rfl
theorem ty78 : aggT Try.prog 78 21 = true := by kernel_rfl
theorem z78 : zeroT Try.prog 78 = some [.int .i64 0, .int .i64 0, .int .i64 0, .int .i64 0, .int .i64 0, .int .i64 0, .slice none 0 0, .int .i64 0, .int .i64 0, .int .i64 0, .int .i64 0, .int .i64 0, .int .i64 0, .int .i64 0, .int .i64 0, .int .i64 0, .int .i64 0, .int .i64 0, .int .i64 0, .slice none 0 0, .int .i64 0] := by kernel_rfl
theorem fld78_0 : fldT Try.prog 78 0 = some 0 := by kernel_rfl
theorem sz78 : (Try.prog.info? 78).map (·.size) = some 21 := by kernel_rfl
theorem ty79 : aggT Try.prog 79 21 = true := by kernel_rfl
theorem z79 : zeroT Try.prog 79 = some [.int .i64 0, .int .i64 0, .int .i64 0, .int .i64 0, .int .i64 0, .int .i64 0, .slice none 0 0, .int .i64 0, .int .i64 0, .int .i64 0, .int .i64 0, .int .i64 0, .int .i64 0, .int .i64 0, .int .i64 0, .int .i64 0, .int .i64 0, .int .i64 0, .int .i64 0, .slice none 0 0, .int .i64 0] := by kernel_rfl
theorem fld79_0 : fldT Try.prog 79 0 = some 0 := by kernel_rfl
theorem sz79 : (Try.prog.info? 79).map (·.size) = some 21 := by kernel_rfl
theorem ty80 : aggT Try.prog 80 21 = true := by kernel_rfl
theorem z80 : zeroT Try.prog 80 = some [.int .i64 0, .int .i64 0, .int .i64 0, .int .i64 0, .int .i64 0, .int .i64 0, .slice none 0 0, .int .i64 0, .int .i64 0, .int .i64 0, .int .i64 0, .int .i64 0, .int .i64 0, .int .i64 0, .int .i64 0, .int .i64 0, .int .i64 0, .int .i64 0, .int .i64 0, .slice none 0 0, .int .i64 0] := by kernel_rfl
theorem fld80_0 : fldT Try.prog 80 0 = some 0 := by kernel_rfl
theorem sz80 : (Try.prog.info? 80).map (·.size) = some 21 := by kernel_rfl
theorem sc81 : scT Try.prog 81 = true := by kernel_rfl
theorem sl81 : slT Try.prog 81 83 1 16 = true := by kernel_rfl
theorem un81 : ∃ e, Try.prog.underlying 81 = some (.slice e) := ⟨_, (slT_spec sl81).1⟩
theorem sz81 : (Try.prog.info? 81).map (·.size) = some 1 := by kernel_rfl
theorem sc82 : scT Try.prog 82 = true := by kernel_rfl
theorem sc83 : scT Try.prog 83 = true := by kernel_rfl
theorem sc85 : scT Try.prog 85 = true := by kernel_rfl
theorem z85 : zeroT Try.prog 85 = some [.nilFunc] := by kernel_rfl
theorem sc86 : scT Try.prog 86 = true := by kernel_rfl
theorem z86 : zeroT Try.prog 86 = some [.nilFunc] := by kernel_rfl
theorem sc87 : scT Try.prog 87 = true := by kernel_rfl
theorem z87 : zeroT Try.prog 87 = some [.nilFunc] := by kernel_rfl
theorem sc88 : scT Try.prog 88 = true := by kernel_rfl
theorem z88 : zeroT Try.prog 88 = some [.nilFunc] := by kernel_rfl
theorem sc89 : scT Try.prog 89 = true := by kernel_rfl
theorem z89 : zeroT Try.prog 89 = some [.nilFunc] := by kernel_rfl
theorem sc90 : scT Try.prog 90 = true := by kernel_rfl
theorem z90 : zeroT Try.prog 90 = some [.nilFunc] := by kernel_rfl
theorem sc91 : scT Try.prog 91 = true := by kernel_rfl
theorem z91 : zeroT Try.prog 91 = some [.nilFunc] := by kernel_rfl
theorem sc92 : scT Try.prog 92 = true := by kernel_rfl
theorem z92 : zeroT Try.prog 92 = some [.nilFunc] := by kernel_rfl
theorem sc93 : scT Try.prog 93 = true := by kernel_rfl
theorem z93 : zeroT Try.prog 93 = some [.nilFunc] := by kernel_rfl
theorem sc94 : scT Try.prog 94 = true := by kernel_rfl
theorem z94 : zeroT Try.prog 94 = some [.nilFunc] := by kernel_rfl
theorem sc95 : scT Try.prog 95 = true := by kernel_rfl
theorem z95 : zeroT Try.prog 95 = some [.nilFunc] := by kernel_rfl
theorem sc96 : scT Try.prog 96 = true := by kernel_rfl
theorem z96 : zeroT Try.prog 96 = some [.nilFunc] := by kernel_rfl
theorem sc97 : scT Try.prog 97 = true := by kernel_rfl
theorem z97 : zeroT Try.prog 97 = some [.nilFunc] := by kernel_rfl
theorem sc98 : scT Try.prog 98 = true := by kernel_rfl
theorem z98 : zeroT Try.prog 98 = some [.nilFunc] := by kernel_rfl
theorem sc100 : scT Try.prog 100 = true := by kernel_rfl
theorem z100 : zeroT Try.prog 100 = some [.nilFunc] := by kernel_rfl
theorem sc101 : scT Try.prog 101 = true := by kernel_rfl
theorem z101 : zeroT Try.prog 101 = some [.nilFunc] := by kernel_rfl
theorem sc102 : scT Try.prog 102 = true := by kernel_rfl
theorem z102 : zeroT Try.prog 102 = some [.nilFunc] := by kernel_rfl
theorem sc103 : scT Try.prog 103 = true := by kernel_rfl
theorem z103 : zeroT Try.prog 103 = some [.nilFunc] := by kernel_rfl
theorem sc104 : scT Try.prog 104 = true := by kernel_rfl
theorem z104 : zeroT Try.prog 104 = some [.nilFunc] := by kernel_rfl
theorem sc105 : scT Try.prog 105 = true := by kernel_rfl
theorem z105 : zeroT Try.prog 105 = some [.nilFunc] := by kernel_rfl
theorem ty106 : aggT Try.prog 106 2 = true := by kernel_rfl
theorem z106 : zeroT Try.prog 106 = some [.int .i64 0, .int .i64 0] := by kernel_rfl
theorem fld106_0 : fldT Try.prog 106 0 = some 0 := by kernel_rfl
theorem fld106_1 : fldT Try.prog 106 1 = some 1 := by kernel_rfl
theorem eg106 : (Try.prog).eqGuardType (Try.prog).depth 106 = false := by kernel_rfl
theorem eqr106 (x0 y0 : Int) (x1 y1 : Int) (w : World) : (Op.equalIn 10000 106 (.agg #[.int .i64 x0, .int .i64 x1]) (.agg #[.int .i64 y0, .int .i64 y1])).run Try.prog w = .ok (decide (x0 = y0) && decide (x1 = y1)) w := by
  have hp : Try.prog.stoodInHeld 106 = false := by kernel_rfl
  have ht : Try.prog.underlying 106 = some (.struct (Try.prog.fieldsOf 106)) := by kernel_rfl
  rw [run_equalIn_agg (d := 9999) _ _ _ _ ht hp]
  by_cases h0 : x0 = y0 <;> by_cases h1 : x1 = y1 <;> simp [Program.fieldsOf, Try.underlying106, go_sem, Op.eqFields, h0, h1]
theorem sz106 : (Try.prog.info? 106).map (·.size) = some 2 := by kernel_rfl
theorem sc107 : scT Try.prog 107 = true := by kernel_rfl
theorem z107 : zeroT Try.prog 107 = some [.nilFunc] := by kernel_rfl
theorem sc108 : scT Try.prog 108 = true := by kernel_rfl
theorem z108 : zeroT Try.prog 108 = some [.nilFunc] := by kernel_rfl
theorem sc109 : scT Try.prog 109 = true := by kernel_rfl
theorem z109 : zeroT Try.prog 109 = some [.nilFunc] := by kernel_rfl
theorem sc110 : scT Try.prog 110 = true := by kernel_rfl
theorem z110 : zeroT Try.prog 110 = some [.nilFunc] := by kernel_rfl
theorem sc111 : scT Try.prog 111 = true := by kernel_rfl
theorem z111 : zeroT Try.prog 111 = some [.nilFunc] := by kernel_rfl
theorem sc112 : scT Try.prog 112 = true := by kernel_rfl
theorem z112 : zeroT Try.prog 112 = some [.nilFunc] := by kernel_rfl
theorem sc113 : scT Try.prog 113 = true := by kernel_rfl
theorem sc114 : scT Try.prog 114 = true := by kernel_rfl
theorem z114 : zeroT Try.prog 114 = some [.nilFunc] := by kernel_rfl
theorem ty115 : aggT Try.prog 115 8 = true := by kernel_rfl
theorem z115 : zeroT Try.prog 115 = some [.int .i64 0, .int .i64 0, .int .i64 0, .int .i64 0, .int .i64 0, .int .i64 0, .int .i64 0, .int .i64 0] := by kernel_rfl
theorem ar115 : Try.prog.underlying 115 = some (.array 4 106) := by kernel_rfl
theorem sz115 : (Try.prog.info? 115).map (·.size) = some 8 := by kernel_rfl
theorem sc116 : scT Try.prog 116 = true := by kernel_rfl
theorem z116 : zeroT Try.prog 116 = some [.nilFunc] := by kernel_rfl
theorem sc117 : scT Try.prog 117 = true := by kernel_rfl
theorem sc118 : scT Try.prog 118 = true := by kernel_rfl
theorem z118 : zeroT Try.prog 118 = some [.nilFunc] := by kernel_rfl
theorem sc119 : scT Try.prog 119 = true := by kernel_rfl
theorem sc120 : scT Try.prog 120 = true := by kernel_rfl
theorem z120 : zeroT Try.prog 120 = some [.nilFunc] := by kernel_rfl
theorem sc121 : scT Try.prog 121 = true := by kernel_rfl
theorem z121 : zeroT Try.prog 121 = some [.nilFunc] := by kernel_rfl
theorem sc122 : scT Try.prog 122 = true := by kernel_rfl
theorem z122 : zeroT Try.prog 122 = some [.nilFunc] := by kernel_rfl
theorem sc123 : scT Try.prog 123 = true := by kernel_rfl
theorem z123 : zeroT Try.prog 123 = some [.nilFunc] := by kernel_rfl
theorem sz124 : (Try.prog.info? 124).map (·.size) = some 4 := by kernel_rfl
theorem sz125 : (Try.prog.info? 125).map (·.size) = some 4 := by kernel_rfl
theorem ty126 : aggT Try.prog 126 0 = true := by kernel_rfl
theorem z126 : zeroT Try.prog 126 = some [] := by kernel_rfl
theorem ar126 : Try.prog.underlying 126 = some (.array 0 16) := by kernel_rfl
theorem sz126 : (Try.prog.info? 126).map (·.size) = some 0 := by kernel_rfl
theorem ty127 : aggT Try.prog 127 0 = true := by kernel_rfl
theorem z127 : zeroT Try.prog 127 = some [] := by kernel_rfl
theorem sz127 : (Try.prog.info? 127).map (·.size) = some 0 := by kernel_rfl
theorem ty128 : aggT Try.prog 128 0 = true := by kernel_rfl
theorem z128 : zeroT Try.prog 128 = some [] := by kernel_rfl
theorem sz128 : (Try.prog.info? 128).map (·.size) = some 0 := by kernel_rfl
theorem sc129 : scT Try.prog 129 = true := by kernel_rfl
theorem z129 : zeroT Try.prog 129 = some [.nilFunc] := by kernel_rfl
theorem sc130 : scT Try.prog 130 = true := by kernel_rfl
theorem z130 : zeroT Try.prog 130 = some [.int .u32 0] := by kernel_rfl
theorem ik130 : Try.prog.underlying 130 = some (.int .u32) := by kernel_rfl
theorem sz130 : (Try.prog.info? 130).map (·.size) = some 1 := by kernel_rfl
theorem sc131 : scT Try.prog 131 = true := by kernel_rfl
theorem z131 : zeroT Try.prog 131 = some [.int .u8 0] := by kernel_rfl
theorem ik131 : Try.prog.underlying 131 = some (.int .u8) := by kernel_rfl
theorem sz131 : (Try.prog.info? 131).map (·.size) = some 1 := by kernel_rfl
theorem sc132 : scT Try.prog 132 = true := by kernel_rfl
theorem z132 : zeroT Try.prog 132 = some [.int .u8 0] := by kernel_rfl
theorem ik132 : Try.prog.underlying 132 = some (.int .u8) := by kernel_rfl
theorem sz132 : (Try.prog.info? 132).map (·.size) = some 1 := by kernel_rfl
theorem sc133 : scT Try.prog 133 = true := by kernel_rfl
theorem z133 : zeroT Try.prog 133 = some [.nilFunc] := by kernel_rfl
theorem sc134 : scT Try.prog 134 = true := by kernel_rfl
theorem sc135 : scT Try.prog 135 = true := by kernel_rfl
theorem z135 : zeroT Try.prog 135 = some [.int .i32 0] := by kernel_rfl
theorem ik135 : Try.prog.underlying 135 = some (.int .i32) := by kernel_rfl
theorem sz135 : (Try.prog.info? 135).map (·.size) = some 1 := by kernel_rfl
theorem sc136 : scT Try.prog 136 = true := by kernel_rfl
theorem z136 : zeroT Try.prog 136 = some [.int .i32 0] := by kernel_rfl
theorem ik136 : Try.prog.underlying 136 = some (.int .i32) := by kernel_rfl
theorem sz136 : (Try.prog.info? 136).map (·.size) = some 1 := by kernel_rfl
theorem sz137 : (Try.prog.info? 137).map (·.size) = some 11 := by kernel_rfl
theorem sz138 : (Try.prog.info? 138).map (·.size) = some 11 := by kernel_rfl
theorem sc139 : scT Try.prog 139 = true := by kernel_rfl
theorem z139 : zeroT Try.prog 139 = some [.nilFunc] := by kernel_rfl
theorem sc140 : scT Try.prog 140 = true := by kernel_rfl
theorem z140 : zeroT Try.prog 140 = some [.nilFunc] := by kernel_rfl
theorem sc141 : scT Try.prog 141 = true := by kernel_rfl
theorem z141 : zeroT Try.prog 141 = some [.nilFunc] := by kernel_rfl
theorem sc142 : scT Try.prog 142 = true := by kernel_rfl
theorem z142 : zeroT Try.prog 142 = some [.nilFunc] := by kernel_rfl
theorem sc143 : scT Try.prog 143 = true := by kernel_rfl
theorem z143 : zeroT Try.prog 143 = some [.nilFunc] := by kernel_rfl
theorem sc144 : scT Try.prog 144 = true := by kernel_rfl
theorem z144 : zeroT Try.prog 144 = some [.nilFunc] := by kernel_rfl
theorem sc145 : scT Try.prog 145 = true := by kernel_rfl
theorem z145 : zeroT Try.prog 145 = some [.nilFunc] := by kernel_rfl
theorem fok2 : FnOK Try.prog 2 = true := by kernel_rfl
theorem fok3 : FnOK Try.prog 3 = true := by kernel_rfl
theorem fok4 : FnOK Try.prog 4 = true := by kernel_rfl
theorem fok5 : FnOK Try.prog 5 = true := by kernel_rfl
theorem fok6 : FnOK Try.prog 6 = true := by kernel_rfl
theorem fok7 : FnOK Try.prog 7 = true := by kernel_rfl
theorem fok8 : FnOK Try.prog 8 = true := by kernel_rfl
theorem fok9 : FnOK Try.prog 9 = true := by kernel_rfl
theorem fok10 : FnOK Try.prog 10 = true := by kernel_rfl
theorem fok11 : FnOK Try.prog 11 = true := by kernel_rfl
theorem fok12 : FnOK Try.prog 12 = true := by kernel_rfl
theorem fok13 : FnOK Try.prog 13 = true := by kernel_rfl
theorem fok14 : FnOK Try.prog 14 = true := by kernel_rfl
theorem fok15 : FnOK Try.prog 15 = true := by kernel_rfl
theorem fok16 : FnOK Try.prog 16 = true := by kernel_rfl
theorem fok17 : FnOK Try.prog 17 = true := by kernel_rfl
theorem fok18 : FnOK Try.prog 18 = true := by kernel_rfl
theorem fok19 : FnOK Try.prog 19 = true := by kernel_rfl
theorem fok20 : FnOK Try.prog 20 = true := by kernel_rfl
theorem fok21 : FnOK Try.prog 21 = true := by kernel_rfl
theorem fok22 : FnOK Try.prog 22 = true := by kernel_rfl
theorem fok23 : FnOK Try.prog 23 = true := by kernel_rfl
theorem fok24 : FnOK Try.prog 24 = true := by kernel_rfl
theorem fok25 : FnOK Try.prog 25 = true := by kernel_rfl
theorem fok26 : FnOK Try.prog 26 = true := by kernel_rfl
theorem fok27 : FnOK Try.prog 27 = true := by kernel_rfl
theorem fok28 : FnOK Try.prog 28 = true := by kernel_rfl
theorem fok29 : FnOK Try.prog 29 = true := by kernel_rfl
theorem fok30 : FnOK Try.prog 30 = true := by kernel_rfl
theorem fok31 : FnOK Try.prog 31 = true := by kernel_rfl
theorem fok32 : FnOK Try.prog 32 = true := by kernel_rfl
theorem fok33 : FnOK Try.prog 33 = true := by kernel_rfl
theorem fok34 : FnOK Try.prog 34 = true := by kernel_rfl
theorem fok35 : FnOK Try.prog 35 = true := by kernel_rfl
theorem fok36 : FnOK Try.prog 36 = true := by kernel_rfl
theorem fok37 : FnOK Try.prog 37 = true := by kernel_rfl
theorem fok38 : FnOK Try.prog 38 = true := by kernel_rfl
theorem fok39 : FnOK Try.prog 39 = true := by kernel_rfl
theorem fok40 : FnOK Try.prog 40 = true := by kernel_rfl
theorem fok41 : FnOK Try.prog 41 = true := by kernel_rfl
theorem fok42 : FnOK Try.prog 42 = true := by kernel_rfl
theorem fok43 : FnOK Try.prog 43 = true := by kernel_rfl
theorem fok44 : FnOK Try.prog 44 = true := by kernel_rfl
theorem fok45 : FnOK Try.prog 45 = true := by kernel_rfl
theorem fok46 : FnOK Try.prog 46 = true := by kernel_rfl
theorem fok47 : FnOK Try.prog 47 = true := by kernel_rfl
theorem fok48 : FnOK Try.prog 48 = true := by kernel_rfl
theorem fok49 : FnOK Try.prog 49 = true := by kernel_rfl
theorem fok50 : FnOK Try.prog 50 = true := by kernel_rfl
theorem fok51 : FnOK Try.prog 51 = true := by kernel_rfl
theorem fok52 : FnOK Try.prog 52 = true := by kernel_rfl
theorem fok53 : FnOK Try.prog 53 = true := by kernel_rfl
theorem fok54 : FnOK Try.prog 54 = true := by kernel_rfl
theorem fok55 : FnOK Try.prog 55 = true := by kernel_rfl
theorem fok56 : FnOK Try.prog 56 = true := by kernel_rfl
theorem fok57 : FnOK Try.prog 57 = true := by kernel_rfl
theorem fok58 : FnOK Try.prog 58 = true := by kernel_rfl
theorem fok59 : FnOK Try.prog 59 = true := by kernel_rfl
theorem fok60 : FnOK Try.prog 60 = true := by kernel_rfl
theorem fok61 : FnOK Try.prog 61 = true := by kernel_rfl
theorem fok62 : FnOK Try.prog 62 = true := by kernel_rfl
theorem fok63 : FnOK Try.prog 63 = true := by kernel_rfl
theorem fok64 : FnOK Try.prog 64 = true := by kernel_rfl
theorem fok65 : FnOK Try.prog 65 = true := by kernel_rfl
theorem fok66 : FnOK Try.prog 66 = true := by kernel_rfl
theorem fok67 : FnOK Try.prog 67 = true := by kernel_rfl
theorem fok68 : FnOK Try.prog 68 = true := by kernel_rfl
theorem fok69 : FnOK Try.prog 69 = true := by kernel_rfl
theorem fok70 : FnOK Try.prog 70 = true := by kernel_rfl
theorem fok71 : FnOK Try.prog 71 = true := by kernel_rfl
theorem fok72 : FnOK Try.prog 72 = true := by kernel_rfl
theorem fok73 : FnOK Try.prog 73 = true := by kernel_rfl
theorem fok74 : FnOK Try.prog 74 = true := by kernel_rfl
theorem fok75 : FnOK Try.prog 75 = true := by kernel_rfl
theorem fok76 : FnOK Try.prog 76 = true := by kernel_rfl
theorem fok77 : FnOK Try.prog 77 = true := by kernel_rfl
theorem fok78 : FnOK Try.prog 78 = true := by kernel_rfl
theorem fok79 : FnOK Try.prog 79 = true := by kernel_rfl
theorem fok80 : FnOK Try.prog 80 = true := by kernel_rfl
theorem fok96 : FnOK Try.prog 96 = true := by kernel_rfl
theorem fok97 : FnOK Try.prog 97 = true := by kernel_rfl
theorem fok98 : FnOK Try.prog 98 = true := by kernel_rfl
theorem fok99 : FnOK Try.prog 99 = true := by kernel_rfl
theorem fok100 : FnOK Try.prog 100 = true := by kernel_rfl
theorem fok101 : FnOK Try.prog 101 = true := by kernel_rfl
theorem fok102 : FnOK Try.prog 102 = true := by kernel_rfl
theorem fok103 : FnOK Try.prog 103 = true := by kernel_rfl
theorem fok104 : FnOK Try.prog 104 = true := by kernel_rfl
theorem fok105 : FnOK Try.prog 105 = true := by kernel_rfl
theorem fok106 : FnOK Try.prog 106 = true := by kernel_rfl
theorem fok107 : FnOK Try.prog 107 = true := by kernel_rfl
theorem fok108 : FnOK Try.prog 108 = true := by kernel_rfl
theorem fok109 : FnOK Try.prog 109 = true := by kernel_rfl
theorem fok110 : FnOK Try.prog 110 = true := by kernel_rfl
end Go.Proofs.Ytpmnfhifmmfglab
