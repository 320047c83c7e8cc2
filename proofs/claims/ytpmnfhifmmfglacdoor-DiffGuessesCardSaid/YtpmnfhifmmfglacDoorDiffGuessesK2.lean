/- Texts of the claim DiffGuesses, joined: DD, PBase, PDig, PPack, PRefUnp, PCodeB, PCodeW, PPf, PCodeR, PGen, PDown, PDifA, D7, D8, D9, DS, DB, Facts, Shelf, HStr, HBld. -/
import Derived.Laws.BytesArg
import Derived.Laws.CopyRow
import Derived.Laws.IdiomCopy
import Derived.Laws.IdiomStrings
import Derived.Laws.Strings2
import Derived.Laws.Strings3
import Derived.Lib.AppendStr
import Derived.Lib.SliceRun
import Derived.LoopN
import Derived.Maps.OwnSet
import Derived.Recover
import Derived.Shelf.Strings.Builder1
import Derived.Shelf.Strings.Count
import Derived.Shelf.Strings.Search3
import Derived.Shelf.Strings.SlTrimAscii
import Derived.Test.YtpmnfhifmmfglacDoorChecked
import Derived.Test.YtpmnfhifmmfglacDoorProg
import Derived.WalkSpells
import Derived.WideMake
import Derived.Test.YtpmnfhifmmfglacDoorDiffGuessesK1
set_option linter.unusedVariables false
set_option linter.unusedSimpArgs false
set_option linter.unusedSectionVars false
namespace Go.Proofs.YtpmnfhifmmfglacDoor
def D_code_Check_l1 (N : Nat) (lens : List Int) (kk : (Int × Int) → Option Int) : Nat → (Int × Int) → Option Int
  | 0, _ => none
  | fuel + 1, (room, i) =>
    cond (decide (i < (lens.length : Int))) (
    Option.bind (idx lens i) fun e2 =>
    cond (decide (e2 < 0)) (
    some 3) (
    cond (decide (15 < e2)) (
    some 3) (
    cond (decide (0 < e2)) (
    Option.bind (nn (IntKind.i64.wrap (15 - e2))) fun _ =>
    Option.bind (some (IntKind.i64.wrap (room - (shlI .i64 1 (IntKind.i64.wrap (15 - e2)))))) fun room3 =>
    D_code_Check_l1 N lens kk fuel (room3, IntKind.i64.wrap (i + 1))) (
    D_code_Check_l1 N lens kk fuel (room, IntKind.i64.wrap (i + 1)))))) (
    kk (room, i))
def D_code_Check (N : Nat) (lens : List Int) : Option Int :=
  cond (decide ((lens.length : Int) < 1)) (
  some 2) (
  cond (decide (17 < (lens.length : Int))) (
  some 2) (
  D_code_Check_l1 N lens (fun (room4, i2) =>
  cond (decide (room4 < 0)) (
  some 1) (
  cond (decide (room4 = 32768)) (
  some 1) (
  some 0))) N (32768, 0)))
def D_cmp_isNaN_int (N : Nat) (x2 : Int) : Option Bool :=
  some (!decide (x2 = x2))
def D_cmp_Compare_int (N : Nat) (x2 : Int) (y : Int) : Option Int :=
  Option.bind (D_cmp_isNaN_int N x2) fun r2 =>
  Option.bind (D_cmp_isNaN_int N y) fun r3 =>
  cond (r2) (
  cond (r3) (
  some 0) (
  some ((-1)))) (
  cond (r3) (
  some 1) (
  cond (decide (x2 < y)) (
  some ((-1))) (
  cond (decide (y < x2)) (
  some 1) (
  some 0))))
def D_code_Words_1 (N : Nat) (a2 : Int) (b : Int) (v0 : List Int) : Option Int :=
  Option.bind (idx v0 a2) fun e =>
  Option.bind (idx v0 b) fun e2 =>
  Option.bind (D_cmp_Compare_int N e e2) fun r2 =>
  some r2
def D_bits_digits_l1 (N : Nat) (n : Int) (size : Int) (kk : (List Int × Int × Int) → Option (List UInt8)) : Nat → (List Int × Int × Int) → Option (List UInt8)
  | 0, _ => none
  | fuel + 1, (l3, i, i2) =>
    cond (decide (i2 < i)) (
    Option.bind (nn (IntKind.i64.wrap ((IntKind.i64.wrap (size - 1)) - i2))) fun _ =>
    Option.bind (idx ([48, 49] : List UInt8) (andI .i64 (shrI .i64 n (IntKind.i64.wrap ((IntKind.i64.wrap (size - 1)) - i2))) 1)) fun b2 =>
    Option.bind (idx l3 i2) fun e2 =>
    Option.bind (setL l3 i2 (b2.toNat : Int)) fun l5 =>
    D_bits_digits_l1 N n size kk fuel (l5, i, IntKind.i64.wrap (i2 + 1))) (
    kk (l3, i, i2))
def D_bits_digits (N : Nat) (n : Int) (size : Int) : Option (List UInt8) :=
  Option.bind (mk 1 size (0 : Int)) fun l2 =>
  D_bits_digits_l1 N n size (fun (l6, i3, i4) =>
  some (toB l6)) N (l2, (l2.length : Int), 0)
def D_bits_Number (N : Nat) (n : Int) (size : Int) : Option (List UInt8 × Int) :=
  cond (decide (size < 0)) (
  some (([] : List UInt8), 3)) (
  cond (decide (16 < size)) (
  some (([] : List UInt8), 3)) (
  cond (decide (n < 0)) (
  some (([] : List UInt8), 3)) (
  Option.bind (nn size) fun _ =>
  cond (decide ((shlI .i64 1 size) ≤ n)) (
  some (([] : List UInt8), 3)) (
  Option.bind (D_bits_digits N n size) fun r2 =>
  some (r2, 0)))))
def D_code_Words_l3 (N : Nat) (d : List Int) (kk : (List Int × Int) → Option (List (List UInt8) × Int)) : Nat → (List Int × Int) → Option (List (List UInt8) × Int)
  | 0, _ => none
  | fuel + 1, (l13, j4) =>
    cond (decide (0 < j4)) (
    Option.bind (idx l13 j4) fun e20 =>
    Option.bind (idx l13 (IntKind.i64.wrap (j4 - 1))) fun e21 =>
    Option.bind (D_code_Words_1 N e20 e21 d) fun r5 =>
    cond (decide (r5 < 0)) (
    Option.bind (idx l13 (IntKind.i64.wrap (j4 - 1))) fun e22 =>
    Option.bind (idx l13 j4) fun e23 =>
    Option.bind (idx l13 j4) fun e24 =>
    Option.bind (setL l13 j4 e22) fun l18 =>
    Option.bind (idx l18 (IntKind.i64.wrap (j4 - 1))) fun e25 =>
    Option.bind (setL l18 (IntKind.i64.wrap (j4 - 1)) e23) fun l19 =>
    Option.bind (some (IntKind.i64.wrap (j4 - 1))) fun j7 =>
    D_code_Words_l3 N d kk fuel (l19, j7)) (
    kk (l13, j4))) (
    kk (l13, j4))
def D_code_Words_l4 (N : Nat) (d : List Int) (l23 : List Int) (kk : (List (List UInt8) × Int × Int) → Option (List (List UInt8) × Int)) : Nat → (List (List UInt8) × Int × Int) → Option (List (List UInt8) × Int)
  | 0, _ => none
  | fuel + 1, (l25, i8, i9) =>
    cond (decide (i9 < (l23.length : Int))) (
    Option.bind (idx l23 i9) fun e33 =>
    Option.bind (idx d e33) fun e34 =>
    Option.bind (nn (IntKind.i64.wrap (15 - e34))) fun _ =>
    Option.bind (idx d e33) fun e35 =>
    Option.bind (D_bits_Number N (shrI .i64 i8 (IntKind.i64.wrap (15 - e34))) e35) fun r7 =>
    Option.bind (idx l25 e33) fun e36 =>
    Option.bind (setL l25 e33 r7.1) fun l27 =>
    Option.bind (idx d e33) fun e37 =>
    Option.bind (nn (IntKind.i64.wrap (15 - e37))) fun _ =>
    Option.bind (some (IntKind.i64.wrap (i8 + (shlI .i64 1 (IntKind.i64.wrap (15 - e37)))))) fun x4 =>
    D_code_Words_l4 N d l23 kk fuel (l27, x4, IntKind.i64.wrap (i9 + 1))) (
    kk (l25, i8, i9))
def D_code_Words_l2 (N : Nat) (d : List Int) (kk : (List Int × Int × Int) → Option (List (List UInt8) × Int)) : Nat → (List Int × Int × Int) → Option (List (List UInt8) × Int)
  | 0, _ => none
  | fuel + 1, (l7, b, i4) =>
    cond (decide (i4 < b)) (
    D_code_Words_l3 N d (fun (l22, j9) =>
    Option.bind (some (IntKind.i64.wrap (i4 + 1))) fun i6 =>
    D_code_Words_l2 N d kk fuel (l22, b, i6)) N (l7, i4)) (
    kk (l7, b, i4))
def D_code_Words_l1 (N : Nat) (d : List Int) (kk : (List Int × Int) → Option (List (List UInt8) × Int)) : Nat → (List Int × Int) → Option (List (List UInt8) × Int)
  | 0, _ => none
  | fuel + 1, (l3, i) =>
    cond (decide (i < (d.length : Int))) (
    Option.bind (idx d i) fun e3 =>
    cond (decide (0 < e3)) (
    Option.bind (app 8 l3 ([i] : List Int)) fun l5 =>
    D_code_Words_l1 N d kk fuel (l5, IntKind.i64.wrap (i + 1))) (
    D_code_Words_l1 N d kk fuel (l3, IntKind.i64.wrap (i + 1)))) (
    kk (l3, i))
def D_code_Words (N : Nat) (d : List Int) : Option (List (List UInt8) × Int) :=
  Option.bind (D_code_Check N d) fun r2 =>
  cond (!decide (r2 = 0)) (
  some (([] : List (List UInt8)), r2)) (
  D_code_Words_l1 N d (fun (l6, i2) =>
  cond (decide (20 ≤ (l6.length : Int))) none (
  Option.bind (some (IntKind.i64.wrap (0 + 1))) fun i3 =>
  D_code_Words_l2 N d (fun (l23, b2, i7) =>
  Option.bind (sameL l6 l23) fun _ =>
  cond (decide (20 < (l23.length : Int))) none (
  Option.bind (sameL l6 l23) fun _ =>
  Option.bind (sameL l6 l23) fun _ =>
  Option.bind (some ((d.length : Int))) fun x2 =>
  Option.bind (mk 16 x2 (([] : List UInt8) : List UInt8)) fun l24 =>
  D_code_Words_l4 N d l23 (fun (l28, i10, i11) =>
  some (l28, 0)) N (l24, 0, 0))) N (l6, (l6.length : Int), i3))) N (([] : List Int), 0))
def D_darkslideref_within (N : Nat) (n : Int) (low : Int) (high : Int) : Option Bool :=
  cond (decide (low ≤ n)) (
  some (decide (n ≤ high))) (
  some false)
def D_bits_all (N : Nat) (b : List UInt8) : Option Bool :=
  Option.bind (D_strings_Trim N b ([48, 49] : List UInt8)) fun r2 =>
  cond (decide (r2 = ([] : List UInt8))) (
  Option.bind (D_strings_Count N b ([48] : List UInt8)) fun r3 =>
  Option.bind (D_strings_Count N b ([49] : List UInt8)) fun r4 =>
  some (decide ((IntKind.i64.wrap (r3 + r4)) = (b.length : Int)))) (
  some false)
def D_bits_Bytes_l1 (N : Nat) (b : List UInt8) (kk : (List Int × Int) → Option (List UInt8 × Int)) : Nat → (List Int × Int) → Option (List UInt8 × Int)
  | 0, _ => none
  | fuel + 1, (l3, i) =>
    cond (decide (i < (b.length : Int))) (
    Option.bind (some (IntKind.i64.wrap (Int.tdiv i 8))) fun x4 =>
    Option.bind (idx l3 x4) fun e3 =>
    Option.bind (idx b i) fun b3 =>
    Option.bind (nn (IntKind.i64.wrap (7 - (Int.tmod i 8)))) fun _ =>
    Option.bind (idx l3 x4) fun e4 =>
    Option.bind (setL l3 x4 (orI .u8 e3 (shlI .u8 (IntKind.u8.wrap ((b3.toNat : Int) - 48)) (IntKind.i64.wrap (7 - (Int.tmod i 8)))))) fun l5 =>
    D_bits_Bytes_l1 N b kk fuel (l5, IntKind.i64.wrap (i + 1))) (
    kk (l3, i))
def D_bits_Bytes (N : Nat) (b : List UInt8) : Option (List UInt8 × Int) :=
  Option.bind (D_bits_all N b) fun r2 =>
  cond (!(r2)) (
  some (([] : List UInt8), 1)) (
  Option.bind (some (IntKind.i64.wrap (Int.tdiv (IntKind.i64.wrap ((b.length : Int) + 7)) 8))) fun x2 =>
  Option.bind (mk 1 x2 (0 : Int)) fun l2 =>
  D_bits_Bytes_l1 N b (fun (l6, i2) =>
  some (toB l6, 0)) N (l2, 0))
def D_code_Read_l2 (N : Nat) (e2 : List UInt8) (kk : (List (List UInt8 × Int) × Int) → Option (List Int × List UInt8 × Int)) : Nat → (List (List UInt8 × Int) × Int) → Option (List Int × List UInt8 × Int)
  | 0, _ => none
  | fuel + 1, (m5, i3) =>
    cond (decide (i3 < (e2.length : Int))) (
    Option.bind (sli e2 0 i3) fun s5 =>
    Option.bind (mlook m5 s5) fun q3 =>
    cond (!(q3.2)) (
    Option.bind (sli e2 0 i3) fun s6 =>
    Option.bind (mput m5 s6 (-1)) fun m7 =>
    D_code_Read_l2 N e2 kk fuel (m7, IntKind.i64.wrap (i3 + 1))) (
    D_code_Read_l2 N e2 kk fuel (m5, IntKind.i64.wrap (i3 + 1)))) (
    kk (m5, i3))
def D_code_Read_l4 (N : Nat) (m10 : List (List UInt8 × Int)) (o2 : List UInt8) (kk : (Int × Int) → Option (List Int × List UInt8 × Int)) : Nat → (Int × Int) → Option (List Int × List UInt8 × Int)
  | 0, _ => none
  | fuel + 1, (i10, i11) =>
    cond (decide (i11 < 0)) (
    Option.bind (sli o2 0 i10) fun s12 =>
    Option.bind (mlook m10 s12) fun q7 =>
    cond (!(q7.2)) (
    some (([] : List Int), ([] : List UInt8), 4)) (
    cond (decide (0 ≤ q7.1)) (
    D_code_Read_l4 N m10 o2 kk fuel (i10, q7.1)) (
    cond (decide (i10 = (o2.length : Int))) (
    some (([] : List Int), ([] : List UInt8), 5)) (
    Option.bind (some (IntKind.i64.wrap (i10 + 1))) fun x5 =>
    D_code_Read_l4 N m10 o2 kk fuel (x5, i11))))) (
    kk (i10, i11))
def D_code_Read_l3 (N : Nat) (p2 : Int) (m10 : List (List UInt8 × Int)) (kk : (List Int × List UInt8) → Option (List Int × List UInt8 × Int)) : Nat → (List Int × List UInt8) → Option (List Int × List UInt8 × Int)
  | 0, _ => none
  | fuel + 1, (l3, o2) =>
    cond (decide ((l3.length : Int) < p2)) (
    D_code_Read_l4 N m10 o2 (fun (i12, i13) =>
    Option.bind (app 8 l3 ([i13] : List Int)) fun l5 =>
    Option.bind (sli o2 i12 (o2.length : Int)) fun s13 =>
    D_code_Read_l3 N p2 m10 kk fuel (l5, s13)) N (0, (-1))) (
    kk (l3, o2))
def D_code_Read_l1 (N : Nat) (r2 : List (List UInt8) × Int) (kk : (List (List UInt8 × Int) × Int) → Option (List Int × List UInt8 × Int)) : Nat → (List (List UInt8 × Int) × Int) → Option (List Int × List UInt8 × Int)
  | 0, _ => none
  | fuel + 1, (m, i) =>
    cond (decide (i < (r2.1.length : Int))) (
    Option.bind (idx r2.1 i) fun e2 =>
    D_code_Read_l2 N e2 (fun (m8, i4) =>
    cond (!decide (e2 = ([] : List UInt8))) (
    Option.bind (mput m8 e2 i) fun m9 =>
    D_code_Read_l1 N r2 kk fuel (m9, IntKind.i64.wrap (i + 1))) (
    D_code_Read_l1 N r2 kk fuel (m8, IntKind.i64.wrap (i + 1)))) N (m, 0)) (
    kk (m, i))
def D_code_Read (N : Nat) (d : List Int) (o : List UInt8) (p2 : Int) : Option (List Int × List UInt8 × Int) :=
  Option.bind (D_code_Words N d) fun r2 =>
  cond (!decide (r2.2 = 0)) (
  some (([] : List Int), ([] : List UInt8), r2.2)) (
  cond (decide (p2 < 0)) (
  some (([] : List Int), ([] : List UInt8), 3)) (
  cond (decide (4096 < p2)) (
  some (([] : List Int), ([] : List UInt8), 3)) (
  Option.bind (D_bits_Bytes N o) fun r3 =>
  cond (!decide (r3.2 = 0)) (
  some (([] : List Int), ([] : List UInt8), 1)) (
  D_code_Read_l1 N r2 (fun (m10, i5) =>
  D_code_Read_l3 N p2 m10 (fun (l6, o3) =>
  some (l6, o3, 0)) N (([] : List Int), o)) N (([] : List (List UInt8 × Int)), 0)))))
def D_darkslideref_SameInts_l1 (N : Nat) (a2 : List Int) (b : List Int) (kk : Int → Option Bool) : Nat → Int → Option Bool
  | 0, _ => none
  | fuel + 1, i =>
    cond (decide (i < (a2.length : Int))) (
    Option.bind (idx a2 i) fun e3 =>
    Option.bind (idx b i) fun e4 =>
    cond (!decide (e3 = e4)) (
    some false) (
    Option.bind (some (IntKind.i64.wrap (i + 1))) fun i3 =>
    D_darkslideref_SameInts_l1 N a2 b kk fuel i3)) (
    kk i)
def D_darkslideref_SameInts (N : Nat) (a2 : List Int) (b : List Int) : Option Bool :=
  cond (!decide ((a2.length : Int) = (b.length : Int))) (
  some false) (
  D_darkslideref_SameInts_l1 N a2 b (fun i4 =>
  some true) N 0)
def D_diff_fine_l1 (N : Nat) (p_P : List Int) (kk : Int → Option Bool) : Nat → Int → Option Bool
  | 0, _ => none
  | fuel + 1, i =>
    cond (decide (i < (p_P.length : Int))) (
    Option.bind (idx p_P i) fun e2 =>
    cond (decide (e2 < 0)) (
    some false) (
    cond (decide (65535 < e2)) (
    some false) (
    D_diff_fine_l1 N p_P kk fuel (IntKind.i64.wrap (i + 1))))) (
    kk i)
def D_diff_fine (N : Nat) (p_W : Int) (p_H : Int) (p_P : List Int) : Option Bool :=
  cond (decide (p_W < 1)) (
  some false) (
  cond (decide (64 < p_W)) (
  some false) (
  cond (decide (p_H < 1)) (
  some false) (
  cond (decide (64 < p_H)) (
  some false) (
  cond (!decide ((p_P.length : Int) = (IntKind.i64.wrap (p_W * p_H)))) (
  some false) (
  D_diff_fine_l1 N p_P (fun i2 =>
  some true) N 0)))))
def D_diff_guess (N : Nat) (d_W : Int) (d_H : Int) (d_P : List Int) (o : Int) (p2 : Int) : Option Int :=
  Option.bind (nz d_W) fun _ =>
  Option.bind (nz d_W) fun _ =>
  cond (decide (p2 = 0)) (
  some 32768) (
  cond (decide ((IntKind.i64.wrap (Int.tdiv p2 d_W)) = 0)) (
  Option.bind (idx d_P (IntKind.i64.wrap (p2 - 1))) fun e =>
  some e) (
  cond (decide ((Int.tmod p2 d_W) = 0)) (
  Option.bind (idx d_P (IntKind.i64.wrap (p2 - d_W))) fun e2 =>
  some e2) (
  Option.bind (idx d_P (IntKind.i64.wrap (p2 - 1))) fun e3 =>
  Option.bind (idx d_P (IntKind.i64.wrap (p2 - d_W))) fun e4 =>
  Option.bind (idx d_P (IntKind.i64.wrap ((IntKind.i64.wrap (p2 - d_W)) - 1))) fun e5 =>
  Option.bind (idx [0, e3, e4, e5, IntKind.i64.wrap ((IntKind.i64.wrap (e3 + e4)) - e5), IntKind.i64.wrap (e3 + (shrI .i64 (IntKind.i64.wrap (e4 - e5)) 1)), IntKind.i64.wrap (e4 + (shrI .i64 (IntKind.i64.wrap (e3 - e5)) 1)), shrI .i64 (IntKind.i64.wrap (e3 + e4)) 1] o) fun e6 =>
  some e6)))
def D_diff_Guess (N : Nat) (p_W : Int) (p_H : Int) (p_P : List Int) (kind : Int) (x2 : Int) (y : Int) : Option (Int × Int) :=
  Option.bind (D_diff_fine N p_W p_H p_P) fun r2 =>
  cond (!(r2)) (
  some (0, 1)) (
  cond (decide (kind < 1)) (
  some (0, 6)) (
  cond (decide (7 < kind)) (
  some (0, 6)) (
  cond (decide (x2 < 0)) (
  some (0, 3)) (
  cond (decide (p_W ≤ x2)) (
  some (0, 3)) (
  cond (decide (y < 0)) (
  some (0, 3)) (
  cond (decide (p_H ≤ y)) (
  some (0, 3)) (
  Option.bind (D_diff_guess N p_W p_H p_P kind (IntKind.i64.wrap ((IntKind.i64.wrap (y * p_W)) + x2))) fun r3 =>
  some (r3, 0))))))))
def D_darkslideref_PlaneFine_l1 (N : Nat) (p_P : List Int) (kk : Int → Option Bool) : Nat → Int → Option Bool
  | 0, _ => none
  | fuel + 1, i =>
    cond (decide (i < (p_P.length : Int))) (
    Option.bind (idx p_P i) fun e2 =>
    Option.bind (D_darkslideref_within N e2 0 65535) fun r5 =>
    cond (!(r5)) (
    some false) (
    Option.bind (some (IntKind.i64.wrap (i + 1))) fun i3 =>
    D_darkslideref_PlaneFine_l1 N p_P kk fuel i3)) (
    kk i)
def D_darkslideref_PlaneFine (N : Nat) (p_W : Int) (p_H : Int) (p_P : List Int) : Option Bool :=
  Option.bind (D_darkslideref_within N p_W 1 64) fun r2 =>
  cond (!(r2)) (
  some false) (
  Option.bind (D_darkslideref_within N p_H 1 64) fun r3 =>
  cond (!(r3)) (
  some false) (
  cond (!decide ((p_P.length : Int) = (IntKind.i64.wrap (p_W * p_H)))) (
  some false) (
  D_darkslideref_PlaneFine_l1 N p_P (fun i4 =>
  some true) N 0)))
def D_darkslidelaw_small (N : Nat)  : Option (Int × Int × List Int) :=
  some (2, 2, ([10, 65535, 0, 7] : List Int))
def D_darkslidelaw_all (N : Nat)  : Option (List Int) :=
  some (([2, 3, 3, 4, 4, 4, 5, 5, 5, 6, 6, 6, 7, 7, 7, 8, 8] : List Int))
def D_math_bits_Len64 (N : Nat) (x2 : Int) : Option Int :=
  cond (decide (4294967296 ≤ x2)) (
  Option.bind (some (shrI .u64 x2 32)) fun x3 =>
  cond (decide (65536 ≤ x3)) (
  Option.bind (some (shrI .u64 x3 16)) fun x4 =>
  Option.bind (some (IntKind.i64.wrap (32 + 16))) fun n =>
  cond (decide (256 ≤ x4)) (
  Option.bind (some (shrI .u64 x4 8)) fun x5 =>
  Option.bind (some (IntKind.i64.wrap (n + 8))) fun n2 =>
  Option.bind (idx tab8 (IntKind.u8.wrap x5)) fun b =>
  Option.bind (some (IntKind.i64.wrap (n2 + (IntKind.i64.wrap (b.toNat : Int))))) fun n3 =>
  some n3) (
  Option.bind (idx tab8 (IntKind.u8.wrap x4)) fun b2 =>
  Option.bind (some (IntKind.i64.wrap (n + (IntKind.i64.wrap (b2.toNat : Int))))) fun n4 =>
  some n4)) (
  cond (decide (256 ≤ x3)) (
  Option.bind (some (shrI .u64 x3 8)) fun x6 =>
  Option.bind (some (IntKind.i64.wrap (32 + 8))) fun n5 =>
  Option.bind (idx tab8 (IntKind.u8.wrap x6)) fun b3 =>
  Option.bind (some (IntKind.i64.wrap (n5 + (IntKind.i64.wrap (b3.toNat : Int))))) fun n6 =>
  some n6) (
  Option.bind (idx tab8 (IntKind.u8.wrap x3)) fun b4 =>
  Option.bind (some (IntKind.i64.wrap (32 + (IntKind.i64.wrap (b4.toNat : Int))))) fun n7 =>
  some n7))) (
  cond (decide (65536 ≤ x2)) (
  Option.bind (some (shrI .u64 x2 16)) fun x7 =>
  Option.bind (some (IntKind.i64.wrap (0 + 16))) fun n8 =>
  cond (decide (256 ≤ x7)) (
  Option.bind (some (shrI .u64 x7 8)) fun x8 =>
  Option.bind (some (IntKind.i64.wrap (n8 + 8))) fun n9 =>
  Option.bind (idx tab8 (IntKind.u8.wrap x8)) fun b5 =>
  Option.bind (some (IntKind.i64.wrap (n9 + (IntKind.i64.wrap (b5.toNat : Int))))) fun n10 =>
  some n10) (
  Option.bind (idx tab8 (IntKind.u8.wrap x7)) fun b6 =>
  Option.bind (some (IntKind.i64.wrap (n8 + (IntKind.i64.wrap (b6.toNat : Int))))) fun n11 =>
  some n11)) (
  cond (decide (256 ≤ x2)) (
  Option.bind (some (shrI .u64 x2 8)) fun x9 =>
  Option.bind (some (IntKind.i64.wrap (0 + 8))) fun n12 =>
  Option.bind (idx tab8 (IntKind.u8.wrap x9)) fun b7 =>
  Option.bind (some (IntKind.i64.wrap (n12 + (IntKind.i64.wrap (b7.toNat : Int))))) fun n13 =>
  some n13) (
  Option.bind (idx tab8 (IntKind.u8.wrap x2)) fun b8 =>
  Option.bind (some (IntKind.i64.wrap (0 + (IntKind.i64.wrap (b8.toNat : Int))))) fun n14 =>
  some n14)))
def D_math_bits_Len (N : Nat) (x2 : Int) : Option Int :=
  Option.bind (D_math_bits_Len64 N x2) fun r2 =>
  some r2
def D_diff_Write_l1 (N : Nat) (d_W : Int) (d_H : Int) (d_P : List Int) (o : Int) (r3 : List (List UInt8) × Int) (kk : (List UInt8 × Int) → Option (List UInt8 × Int)) : Nat → (List UInt8 × Int) → Option (List UInt8 × Int)
  | 0, _ => none
  | fuel + 1, (l2, i) =>
    cond (decide (i < (d_P.length : Int))) (
    Option.bind (idx d_P i) fun e6 =>
    Option.bind (D_diff_guess N d_W d_H d_P o i) fun r11 =>
    Option.bind (some (IntKind.i64.wrap (IntKind.u16.wrap (IntKind.i64.wrap (e6 - r11))))) fun x6 =>
    cond (decide (32768 < x6)) (
    Option.bind (some (IntKind.i64.wrap (x6 - 65536))) fun x7 =>
    Option.bind (D_math_bits_Len N (IntKind.u64.wrap (max x7 (IntKind.i64.wrap (0 - x7))))) fun r12 =>
    cond (decide ((r3.1.length : Int) ≤ r12)) (
    some (([] : List UInt8), 4)) (
    Option.bind (idx r3.1 r12) fun e7 =>
    cond (decide (e7 = ([] : List UInt8))) (
    some (([] : List UInt8), 4)) (
    Option.bind (idx r3.1 r12) fun e8 =>
    Option.bind (bwr l2 e8) fun b7 =>
    cond (decide (0 < r12)) (
    cond (decide (r12 < 16)) (
    cond (decide (x7 < 0)) (
    Option.bind (nn r12) fun _ =>
    Option.bind (some (IntKind.i64.wrap (x7 + (IntKind.i64.wrap ((shlI .i64 1 r12) - 1))))) fun x8 =>
    Option.bind (D_bits_Number N x8 r12) fun r13 =>
    Option.bind (bwr b7 r13.1) fun b8 =>
    D_diff_Write_l1 N d_W d_H d_P o r3 kk fuel (b8, IntKind.i64.wrap (i + 1))) (
    Option.bind (D_bits_Number N x7 r12) fun r14 =>
    Option.bind (bwr b7 r14.1) fun b9 =>
    D_diff_Write_l1 N d_W d_H d_P o r3 kk fuel (b9, IntKind.i64.wrap (i + 1)))) (
    D_diff_Write_l1 N d_W d_H d_P o r3 kk fuel (b7, IntKind.i64.wrap (i + 1)))) (
    D_diff_Write_l1 N d_W d_H d_P o r3 kk fuel (b7, IntKind.i64.wrap (i + 1)))))) (
    Option.bind (D_math_bits_Len N (IntKind.u64.wrap (max x6 (IntKind.i64.wrap (0 - x6))))) fun r15 =>
    cond (decide ((r3.1.length : Int) ≤ r15)) (
    some (([] : List UInt8), 4)) (
    Option.bind (idx r3.1 r15) fun e9 =>
    cond (decide (e9 = ([] : List UInt8))) (
    some (([] : List UInt8), 4)) (
    Option.bind (idx r3.1 r15) fun e10 =>
    Option.bind (bwr l2 e10) fun b10 =>
    cond (decide (0 < r15)) (
    cond (decide (r15 < 16)) (
    cond (decide (x6 < 0)) (
    Option.bind (nn r15) fun _ =>
    Option.bind (some (IntKind.i64.wrap (x6 + (IntKind.i64.wrap ((shlI .i64 1 r15) - 1))))) fun x9 =>
    Option.bind (D_bits_Number N x9 r15) fun r16 =>
    Option.bind (bwr b10 r16.1) fun b11 =>
    D_diff_Write_l1 N d_W d_H d_P o r3 kk fuel (b11, IntKind.i64.wrap (i + 1))) (
    Option.bind (D_bits_Number N x6 r15) fun r17 =>
    Option.bind (bwr b10 r17.1) fun b12 =>
    D_diff_Write_l1 N d_W d_H d_P o r3 kk fuel (b12, IntKind.i64.wrap (i + 1)))) (
    D_diff_Write_l1 N d_W d_H d_P o r3 kk fuel (b10, IntKind.i64.wrap (i + 1)))) (
    D_diff_Write_l1 N d_W d_H d_P o r3 kk fuel (b10, IntKind.i64.wrap (i + 1))))))) (
    kk (l2, i))
def D_diff_Write (N : Nat) (d_W : Int) (d_H : Int) (d_P : List Int) (o : Int) (p2 : List Int) : Option (List UInt8 × Int) :=
  Option.bind (D_diff_fine N d_W d_H d_P) fun r2 =>
  cond (!(r2)) (
  some (([] : List UInt8), 1)) (
  cond (decide (o < 1)) (
  some (([] : List UInt8), 6)) (
  cond (decide (7 < o)) (
  some (([] : List UInt8), 6)) (
  Option.bind (D_code_Words N p2) fun r3 =>
  cond (!decide (r3.2 = 0)) (
  some (([] : List UInt8), r3.2)) (
  D_diff_Write_l1 N d_W d_H d_P o r3 (fun (l3, i2) =>
  Option.bind (D_bits_Bytes N l3) fun r18 =>
  some (r18.1, 0)) N (([] : List UInt8), 0)))))
def D_bits_Bits_l1 (N : Nat) (s : List UInt8) (kk : (List UInt8 × Int) → Option (List UInt8)) : Nat → (List UInt8 × Int) → Option (List UInt8)
  | 0, _ => none
  | fuel + 1, (l2, i) =>
    cond (decide (i < (s.length : Int))) (
    Option.bind (idx s i) fun b3 =>
    Option.bind (D_bits_digits N (IntKind.i64.wrap (b3.toNat : Int)) 8) fun r3 =>
    Option.bind (bwr l2 r3) fun b4 =>
    Option.bind (some (IntKind.i64.wrap (i + 1))) fun i3 =>
    D_bits_Bits_l1 N s kk fuel (b4, i3)) (
    kk (l2, i))
def D_bits_Bits (N : Nat) (s : List UInt8) : Option (List UInt8) :=
  D_bits_Bits_l1 N s (fun (l3, i4) =>
  some l3) N (([] : List UInt8), 0)
def D_bits_Value_l1 (N : Nat) (b : List UInt8) (kk : (Int × Int) → Option (Int × Int)) : Nat → (Int × Int) → Option (Int × Int)
  | 0, _ => none
  | fuel + 1, (n, i) =>
    cond (decide (i < (b.length : Int))) (
    Option.bind (idx b i) fun b3 =>
    Option.bind (some (IntKind.i64.wrap ((shlI .i64 n 1) + (IntKind.i64.wrap (andI .u8 (b3.toNat : Int) 1))))) fun n3 =>
    D_bits_Value_l1 N b kk fuel (n3, IntKind.i64.wrap (i + 1))) (
    kk (n, i))
def D_bits_Value (N : Nat) (b : List UInt8) : Option (Int × Int) :=
  Option.bind (D_bits_all N b) fun r2 =>
  cond (!(r2)) (
  some (0, 1)) (
  cond (decide (16 < (b.length : Int))) (
  some (0, 3)) (
  D_bits_Value_l1 N b (fun (n4, i2) =>
  some (n4, 0)) N (0, 0)))
def D_diff_Read_l3 (N : Nat)  (kk : (List UInt8 × List UInt8) → Option (Int × Int × List Int × Int)) : Nat → (List UInt8 × List UInt8) → Option (Int × Int × List Int × Int)
  | 0, _ => none
  | fuel + 1, (x16, x17) =>
    cond (decide ((x16.length : Int) < 1)) (
    cond (!decide (x17 = ([] : List UInt8))) (
    Option.bind (sli x17 0 1) fun s21 =>
    Option.bind (D_bits_Bits N s21) fun r15 =>
    Option.bind (addS x16 r15) fun s22 =>
    Option.bind (sli x17 1 (x17.length : Int)) fun s23 =>
    D_diff_Read_l3 N  kk fuel (s22, s23)) (
    kk (x16, x17))) (
    kk (x16, x17))
def D_diff_Read_l4 (N : Nat) (i6 : Int) (kk : (List UInt8 × List UInt8) → Option (Int × Int × List Int × Int)) : Nat → (List UInt8 × List UInt8) → Option (Int × Int × List Int × Int)
  | 0, _ => none
  | fuel + 1, (x22, x23) =>
    cond (decide ((x22.length : Int) < i6)) (
    cond (!decide (x23 = ([] : List UInt8))) (
    Option.bind (sli x23 0 1) fun s30 =>
    Option.bind (D_bits_Bits N s30) fun r18 =>
    Option.bind (addS x22 r18) fun s31 =>
    Option.bind (sli x23 1 (x23.length : Int)) fun s32 =>
    D_diff_Read_l4 N i6 kk fuel (s31, s32)) (
    kk (x22, x23))) (
    kk (x22, x23))
def D_diff_Read_l2 (N : Nat) (p4 : List Int) (kk : (List UInt8 × List UInt8 × Int × Int × List UInt8) → Option (Int × Int × List Int × Int)) : Nat → (List UInt8 × List UInt8 × Int × Int × List UInt8) → Option (Int × Int × List Int × Int)
  | 0, _ => none
  | fuel + 1, (x12, x13, i4, i5, w3) =>
    Option.bind (D_code_Read N p4 w3 1) fun r13 =>
    cond (decide (r13.2.2 = 0)) (
    Option.bind (idx r13.1 0) fun e7 =>
    kk (x12, x13, e7, r13.2.2, w3)) (
    D_diff_Read_l3 N  (fun (x18, x19) =>
    cond (decide ((x18.length : Int) < 1)) (
    cond (!decide (r13.2.2 = 5)) (
    kk (x18, x19, 0, 1, w3)) (
    kk (x18, x19, 0, 1, w3))) (
    Option.bind (sli x18 0 1) fun s24 =>
    Option.bind (sli x18 1 (x18.length : Int)) fun s25 =>
    cond (!decide (r13.2.2 = 5)) (
    kk (s25, x19, 0, 1, w3)) (
    Option.bind (addS w3 s24) fun s26 =>
    D_diff_Read_l2 N p4 kk fuel (s25, x19, i4, i5, s26)))) N (x12, x13))
def D_diff_Read_l1 (N : Nat) (o : Int) (p2 : Int) (p3 : Int) (p4 : List Int) (kk : (List Int × List UInt8 × List UInt8 × Int) → Option (Int × Int × List Int × Int)) : Nat → (List Int × List UInt8 × List UInt8 × Int) → Option (Int × Int × List Int × Int)
  | 0, _ => none
  | fuel + 1, (x_P, x3, x4, i) =>
    cond (decide (i < (IntKind.i64.wrap (o * p2)))) (
    Option.bind (app 8 x_P ([0] : List Int)) fun x_P3 =>
    D_diff_Read_l2 N p4 (fun (x20, x21, i6, i7, w4) =>
    cond (!decide (i7 = 0)) (
    some (0, 0, ([] : List Int), 1)) (
    cond (decide (i6 = 16)) (
    Option.bind (D_diff_guess N o p2 x_P3 p3 i) fun r16 =>
    Option.bind (idx x_P3 i) fun e8 =>
    Option.bind (setL x_P3 i (IntKind.i64.wrap (IntKind.u16.wrap (IntKind.i64.wrap (r16 + 32768))))) fun l6 =>
    D_diff_Read_l1 N o p2 p3 p4 kk fuel (l6, x20, x21, IntKind.i64.wrap (i + 1))) (
    cond (decide (0 < i6)) (
    D_diff_Read_l4 N i6 (fun (x24, x25) =>
    cond (decide ((x24.length : Int) < i6)) (
    some (0, 0, ([] : List Int), 1)) (
    Option.bind (sli x24 0 i6) fun s33 =>
    Option.bind (sli x24 i6 (x24.length : Int)) fun s34 =>
    Option.bind (D_bits_Value N s33) fun r19 =>
    Option.bind (idx s33 0) fun b2 =>
    cond (decide ((b2.toNat : Int) = 48)) (
    Option.bind (nn i6) fun _ =>
    Option.bind (some (IntKind.i64.wrap (r19.1 - (IntKind.i64.wrap ((shlI .i64 1 i6) - 1))))) fun x26 =>
    Option.bind (D_diff_guess N o p2 x_P3 p3 i) fun r20 =>
    Option.bind (idx x_P3 i) fun e9 =>
    Option.bind (setL x_P3 i (IntKind.i64.wrap (IntKind.u16.wrap (IntKind.i64.wrap (r20 + x26))))) fun l7 =>
    D_diff_Read_l1 N o p2 p3 p4 kk fuel (l7, s34, x25, IntKind.i64.wrap (i + 1))) (
    Option.bind (D_diff_guess N o p2 x_P3 p3 i) fun r21 =>
    Option.bind (idx x_P3 i) fun e10 =>
    Option.bind (setL x_P3 i (IntKind.i64.wrap (IntKind.u16.wrap (IntKind.i64.wrap (r21 + r19.1))))) fun l8 =>
    D_diff_Read_l1 N o p2 p3 p4 kk fuel (l8, s34, x25, IntKind.i64.wrap (i + 1))))) N (x20, x21)) (
    Option.bind (D_diff_guess N o p2 x_P3 p3 i) fun r22 =>
    Option.bind (idx x_P3 i) fun e11 =>
    Option.bind (setL x_P3 i (IntKind.i64.wrap (IntKind.u16.wrap (IntKind.i64.wrap (r22 + 0))))) fun l9 =>
    D_diff_Read_l1 N o p2 p3 p4 kk fuel (l9, x20, x21, IntKind.i64.wrap (i + 1)))))) N (x3, x4, 0, 0, ([] : List UInt8))) (
    kk (x_P, x3, x4, i))
def D_diff_Read (N : Nat) (d : List UInt8) (o : Int) (p2 : Int) (p3 : Int) (p4 : List Int) : Option (Int × Int × List Int × Int) :=
  cond (decide (o < 1)) (
  some (0, 0, ([] : List Int), 3)) (
  cond (decide (64 < o)) (
  some (0, 0, ([] : List Int), 3)) (
  cond (decide (p2 < 1)) (
  some (0, 0, ([] : List Int), 3)) (
  cond (decide (64 < p2)) (
  some (0, 0, ([] : List Int), 3)) (
  cond (decide (p3 < 1)) (
  some (0, 0, ([] : List Int), 6)) (
  cond (decide (7 < p3)) (
  some (0, 0, ([] : List Int), 6)) (
  Option.bind (D_code_Check N p4) fun r2 =>
  cond (!decide (r2 = 0)) (
  some (0, 0, ([] : List Int), r2)) (
  D_diff_Read_l1 N o p2 p3 p4 (fun (x_P4, x27, x28, i8) =>
  cond (!decide (x28 = ([] : List UInt8))) (
  some (0, 0, ([] : List Int), 1)) (
  Option.bind (D_strings_Contains N x27 ([49] : List UInt8)) fun r23 =>
  cond (r23) (
  some (0, 0, ([] : List Int), 1)) (
  some (o, p2, x_P4, 0)))) N (([] : List Int), ([] : List UInt8), d, 0))))))))
def D_darkslideref_SamePlanes (N : Nat) (a_W : Int) (a_H : Int) (a_P : List Int) (b_W : Int) (b_H : Int) (b_P : List Int) : Option Bool :=
  cond (decide (a_W = b_W)) (
  cond (decide (a_H = b_H)) (
  Option.bind (D_darkslideref_SameInts N a_P b_P) fun r2 =>
  some r2) (
  some false)) (
  some false)
def D_darkslidelaw_diffBegun (N : Nat)  : Option Bool :=
  Option.bind (D_darkslidelaw_small N ) fun r2 =>
  Option.bind (D_diff_Guess N r2.1 r2.2.1 r2.2.2 5 1 1) fun r3 =>
  Option.bind (D_darkslidelaw_small N ) fun r4 =>
  Option.bind (D_darkslidelaw_all N ) fun r5 =>
  Option.bind (D_diff_Write N r4.1 r4.2.1 r4.2.2 1 r5) fun r6 =>
  Option.bind (D_darkslidelaw_all N ) fun r7 =>
  Option.bind (D_diff_Read N r6.1 2 2 1 r7) fun r8 =>
  cond (decide (r3.2 = 0)) (
  cond (decide (r6.2 = 0)) (
  cond (decide (r8.2.2.2 = 0)) (
  cond (decide (r3.1 = 32762)) (
  Option.bind (D_darkslidelaw_small N ) fun r9 =>
  Option.bind (D_darkslideref_SamePlanes N r8.1 r8.2.1 r8.2.2.1 r9.1 r9.2.1 r9.2.2) fun r10 =>
  some r10) (
  some false)) (
  some false)) (
  some false)) (
  some false)
def D_darkslideref_At (N : Nat) (p_W : Int) (p_H : Int) (p_P : List Int) (x2 : Int) (y : Int) : Option Int :=
  Option.bind (idx p_P (IntKind.i64.wrap ((IntKind.i64.wrap (y * p_W)) + x2))) fun e =>
  some e
def D_darkslideref_down (N : Nat) (n : Int) (by2 : Int) : Option Int :=
  Option.bind (nz by2) fun _ =>
  Option.bind (some (IntKind.i64.wrap (Int.tdiv n by2))) fun q =>
  cond (decide (n < (IntKind.i64.wrap (q * by2)))) (
  Option.bind (some (IntKind.i64.wrap (q - 1))) fun q2 =>
  some q2) (
  some q)
def D_darkslideref_GuessOf (N : Nat) (d_W : Int) (d_H : Int) (d_P : List Int) (o : Int) (p2 : Int) (p3 : Int) : Option Int :=
  cond (decide (p2 = 0)) (
  cond (decide (p3 = 0)) (
  some 32768) (
  cond (decide (p3 = 0)) (
  Option.bind (D_darkslideref_At N d_W d_H d_P (IntKind.i64.wrap (p2 - 1)) 0) fun r2 =>
  some r2) (
  cond (decide (p2 = 0)) (
  Option.bind (D_darkslideref_At N d_W d_H d_P 0 (IntKind.i64.wrap (p3 - 1))) fun r3 =>
  some r3) (
  Option.bind (D_darkslideref_At N d_W d_H d_P (IntKind.i64.wrap (p2 - 1)) p3) fun r4 =>
  Option.bind (D_darkslideref_At N d_W d_H d_P p2 (IntKind.i64.wrap (p3 - 1))) fun r5 =>
  Option.bind (D_darkslideref_At N d_W d_H d_P (IntKind.i64.wrap (p2 - 1)) (IntKind.i64.wrap (p3 - 1))) fun r6 =>
  cond (decide (o = 1)) (
  some r4) (
  cond (decide (o = 2)) (
  some r5) (
  cond (decide (o = 3)) (
  some r6) (
  cond (decide (o = 4)) (
  some (IntKind.i64.wrap ((IntKind.i64.wrap (r4 + r5)) - r6))) (
  cond (decide (o = 5)) (
  Option.bind (D_darkslideref_down N (IntKind.i64.wrap (r5 - r6)) 2) fun r7 =>
  some (IntKind.i64.wrap (r4 + r7))) (
  cond (decide (o = 6)) (
  Option.bind (D_darkslideref_down N (IntKind.i64.wrap (r4 - r6)) 2) fun r8 =>
  some (IntKind.i64.wrap (r5 + r8))) (
  Option.bind (D_darkslideref_down N (IntKind.i64.wrap (r4 + r5)) 2) fun r9 =>
  some r9)))))))))) (
  cond (decide (p3 = 0)) (
  Option.bind (D_darkslideref_At N d_W d_H d_P (IntKind.i64.wrap (p2 - 1)) 0) fun r10 =>
  some r10) (
  cond (decide (p2 = 0)) (
  Option.bind (D_darkslideref_At N d_W d_H d_P 0 (IntKind.i64.wrap (p3 - 1))) fun r11 =>
  some r11) (
  Option.bind (D_darkslideref_At N d_W d_H d_P (IntKind.i64.wrap (p2 - 1)) p3) fun r12 =>
  Option.bind (D_darkslideref_At N d_W d_H d_P p2 (IntKind.i64.wrap (p3 - 1))) fun r13 =>
  Option.bind (D_darkslideref_At N d_W d_H d_P (IntKind.i64.wrap (p2 - 1)) (IntKind.i64.wrap (p3 - 1))) fun r14 =>
  cond (decide (o = 1)) (
  some r12) (
  cond (decide (o = 2)) (
  some r13) (
  cond (decide (o = 3)) (
  some r14) (
  cond (decide (o = 4)) (
  some (IntKind.i64.wrap ((IntKind.i64.wrap (r12 + r13)) - r14))) (
  cond (decide (o = 5)) (
  Option.bind (D_darkslideref_down N (IntKind.i64.wrap (r13 - r14)) 2) fun r15 =>
  some (IntKind.i64.wrap (r12 + r15))) (
  cond (decide (o = 6)) (
  Option.bind (D_darkslideref_down N (IntKind.i64.wrap (r12 - r14)) 2) fun r16 =>
  some (IntKind.i64.wrap (r13 + r16))) (
  Option.bind (D_darkslideref_down N (IntKind.i64.wrap (r12 + r13)) 2) fun r17 =>
  some r17)))))))))
def D_darkslidelaw_DiffGuesses (N : Nat) (d_W : Int) (d_H : Int) (d_P : List Int) (o : Int) (p2 : Int) (p3 : Int) : Option Bool :=
  Option.bind (D_diff_Guess N d_W d_H d_P o p2 p3) fun r2 =>
  Option.bind (D_darkslideref_PlaneFine N d_W d_H d_P) fun r3 =>
  cond (!(r3)) (
  Option.bind (D_darkslidelaw_diffBegun N ) fun r4 =>
  cond (r4) (
  cond (decide (r2.1 = 0)) (
  some (decide (r2.2 = 1))) (
  some false)) (
  some false)) (
  cond (decide (o < 1)) (
  Option.bind (D_darkslidelaw_diffBegun N ) fun r5 =>
  cond (r5) (
  cond (decide (r2.1 = 0)) (
  some (decide (r2.2 = 6))) (
  some false)) (
  some false)) (
  cond (decide (7 < o)) (
  Option.bind (D_darkslidelaw_diffBegun N ) fun r6 =>
  cond (r6) (
  cond (decide (r2.1 = 0)) (
  some (decide (r2.2 = 6))) (
  some false)) (
  some false)) (
  cond (decide (p2 < 0)) (
  Option.bind (D_darkslidelaw_diffBegun N ) fun r7 =>
  cond (r7) (
  cond (decide (r2.1 = 0)) (
  some (decide (r2.2 = 3))) (
  some false)) (
  some false)) (
  cond (decide (d_W ≤ p2)) (
  Option.bind (D_darkslidelaw_diffBegun N ) fun r8 =>
  cond (r8) (
  cond (decide (r2.1 = 0)) (
  some (decide (r2.2 = 3))) (
  some false)) (
  some false)) (
  cond (decide (p3 < 0)) (
  Option.bind (D_darkslidelaw_diffBegun N ) fun r9 =>
  cond (r9) (
  cond (decide (r2.1 = 0)) (
  some (decide (r2.2 = 3))) (
  some false)) (
  some false)) (
  cond (decide (d_H ≤ p3)) (
  Option.bind (D_darkslidelaw_diffBegun N ) fun r10 =>
  cond (r10) (
  cond (decide (r2.1 = 0)) (
  some (decide (r2.2 = 3))) (
  some false)) (
  some false)) (
  Option.bind (D_darkslidelaw_diffBegun N ) fun r11 =>
  cond (r11) (
  cond (decide (r2.2 = 0)) (
  Option.bind (D_darkslideref_GuessOf N d_W d_H d_P o p2 p3) fun r12 =>
  some (decide (r2.1 = r12))) (
  some false)) (
  some false))))))))
end Go.Proofs.YtpmnfhifmmfglacDoor

namespace Go.Proofs.YtpmnfhifmmfglacDoor
open Go
theorem w64 {x : Int} (h : -9223372036854775808 ≤ x ∧ x ≤ 9223372036854775807) : IntKind.i64.wrap x = x := IntWalk.i64_in x h
theorem idx_nat {α : Type} (xs : List α) (k : Nat) : idx xs (k : Int) = xs[k]? := by simp [idx]
theorem nz_eq {n : Int} (h : n ≠ 0) : nz n = some () := by unfold nz; rw [if_neg h]
theorem bsome {α β : Type} (x : α) (f : α → Option β) : Option.bind (some x) f = f x := rfl
theorem cT {α : Type} {b : Bool} (h : b = true) (x y : α) : cond b x y = x := by rw [h]; rfl
theorem cF {α : Type} {b : Bool} (h : b = false) (x y : α) : cond b x y = y := by rw [h]; rfl
theorem dT {p : Prop} [Decidable p] (h : p) : decide p = true := decide_eq_true h
theorem dF {p : Prop} [Decidable p] (h : ¬ p) : decide p = false := decide_eq_false h
end Go.Proofs.YtpmnfhifmmfglacDoor

namespace Go.Proofs.YtpmnfhifmmfglacDoor
open Go
def num (B : Nat) (l : List Nat) : Nat := l.foldl (fun a x => a * B + x) 0
end Go.Proofs.YtpmnfhifmmfglacDoor

namespace Go.Proofs.YtpmnfhifmmfglacDoor
open Go
/-- The number that samples are. -/
def smp (d : Nat) (l : List Int) (k : Nat) : Nat := num (2 ^ d) ((l.take k).map Int.toNat)
end Go.Proofs.YtpmnfhifmmfglacDoor

namespace Go.Proofs.YtpmnfhifmmfglacDoor
open Go
theorem within2 (N : Nat) (n lo hi : Int) : D_darkslideref_within N n lo hi = some (decide (lo ≤ n ∧ n ≤ hi)) := by
  unfold D_darkslideref_within
  by_cases h1 : lo ≤ n
  · rw [cT (dT h1)]; simp [h1]
  · rw [cF (dF h1)]; simp [h1]
end Go.Proofs.YtpmnfhifmmfglacDoor

namespace Go.Proofs.YtpmnfhifmmfglacDoor
open Go
/-- Is every letter a bit? -/
def isB (b : List UInt8) : Bool := b.all fun c => decide (c = 48 ∨ c = 49)
end Go.Proofs.YtpmnfhifmmfglacDoor

namespace Go.Proofs.YtpmnfhifmmfglacDoor
open Go
/-- How long the i-th word is. -/
def ky (ns : List Nat) (i : Nat) : Nat := ns.getD i 0
section
variable {ns : List Nat} (hn : ∀ n ∈ ns, n ≤ 15) (hl : ns.length ≤ 17)
def pos (ns : List Nat) (i : Nat) : Bool := decide (0 < ky ns i)
end
end Go.Proofs.YtpmnfhifmmfglacDoor

namespace Go.Proofs.YtpmnfhifmmfglacDoor
open Go
/-- A set of words, none of which begins with another one. -/
def PF (W : List (List UInt8)) : Prop := ∀ (i j : Nat) (u v : List UInt8), i ≠ j → W[i]? = some u → W[j]? = some v → u ≠ [] → ¬ (u <+: v)
def bitW (W : List (List UInt8)) : Prop := ∀ w ∈ W, isB w = true ∧ w.length ≤ 15
end Go.Proofs.YtpmnfhifmmfglacDoor

namespace Go.Proofs.YtpmnfhifmmfglacDoor
open Go
/-- What a book of words holds. -/
structure BK (V : List (List UInt8)) (m : List (List UInt8 × Int)) : Prop where
  wd : ∀ (i : Nat) (s : List UInt8), V[i]? = some s → s ≠ [] → mget m s = some (i : Int)
  pr : ∀ (s w : List UInt8), w ∈ V → s <+: w → s ≠ w → mget m s = some (-1)
  no : ∀ (s : List UInt8), (∀ w ∈ V, w ≠ [] → ¬ s <+: w) → mget m s = none
theorem PF.sub {V : List (List UInt8)} {w : List UInt8} (h : PF (V ++ [w])) : PF V := fun i j u v hij hu hv h0 =>
  h i j u v hij (by rw [List.getElem?_append_left (List.getElem?_eq_some_iff.1 hu).1]; exact hu) (by rw [List.getElem?_append_left (List.getElem?_eq_some_iff.1 hv).1]; exact hv) h0
theorem BK.nil {V : List (List UInt8)} {m : List (List UInt8 × Int)} (B : BK V m) : BK (V ++ [[]]) m := by
  refine ⟨fun i s hi h0 => ?_, fun s u hu h3 h4 => ?_, fun s h => ?_⟩
  · by_cases hlt : i < V.length
    · rw [List.getElem?_append_left hlt] at hi; exact B.wd i s hi h0
    · have hl := (List.getElem?_eq_some_iff.1 hi).1
      simp at hl
      obtain rfl : i = V.length := by omega
      simp at hi
      exact absurd hi h0
  · rcases List.mem_append.1 hu with hu | hu
    · exact B.pr s u hu h3 h4
    · obtain rfl : u = [] := by simpa using hu
      exact absurd (List.prefix_nil.1 h3) h4
  · exact B.no s fun u hu hu0 => h u (by simp [hu]) hu0
end Go.Proofs.YtpmnfhifmmfglacDoor

namespace Go.Proofs.YtpmnfhifmmfglacDoor
open Go
def sideOK (W H : Int) (n : Nat) : Prop := 1 ≤ W ∧ W ≤ 64 ∧ 1 ≤ H ∧ H ≤ 64 ∧ (n : Int) = W * H
instance (W H : Int) (n : Nat) : Decidable (sideOK W H n) := by unfold sideOK; infer_instance
theorem mul_bd {W H : Int} (h : 1 ≤ W ∧ W ≤ 64 ∧ 1 ≤ H ∧ H ≤ 64) : 1 ≤ W * H ∧ W * H ≤ 4096 := by
  obtain ⟨h1, h2, h3, h4⟩ := h
  have a := Int.mul_le_mul h2 h4 (by omega) (by omega)
  have b := Int.mul_le_mul h1 h3 (by omega) (by omega)
  omega
theorem dm {W x : Nat} (y : Nat) (h : x < W) : (y * W + x) % W = x ∧ (y * W + x) / W = y := by
  have h1 : (y * W + x) % W = x := by rw [Nat.add_comm, Nat.add_mul_mod_self_right, Nat.mod_eq_of_lt h]
  have h2 : (y * W + x) / W = y := by rw [Nat.add_comm, Nat.add_mul_div_right _ _ (by omega), Nat.div_eq_of_lt h, Nat.zero_add]
  exact ⟨h1, h2⟩
theorem place_lt {W H x y : Nat} (hx : x < W) (hy : y < H) : y * W + x < W * H := by
  have := Nat.mul_le_mul_right W (show y + 1 ≤ H from hy)
  rw [Nat.add_mul, Nat.one_mul, Nat.mul_comm H W] at this
  omega
theorem tdm {W : Nat} (k : Nat) (hW : 0 < W) : Int.tmod (k : Int) (W : Int) = ((k % W : Nat) : Int) ∧ Int.tdiv (k : Int) (W : Int) = ((k / W : Nat) : Int) := by
  constructor
  · rw [Int.tmod_eq_emod_of_nonneg (by omega)]; rfl
  · rw [Int.tdiv_eq_ediv_of_nonneg (by omega)]; rfl
/-- A list by its places, as far as it has come. -/
def pre {α : Type} (W : Nat) (f : Nat → Nat → α) (n : Nat) : List α := (List.range n).map fun k => f (k % W) (k / W)
theorem shr_eq (m : Int) (n : Nat) (hn : n ≤ 64) : shrI .i64 m (n : Int) = m / 2 ^ n := by
  unfold shrI
  rw [Int.toNat_natCast, show min n IntKind.i64.bits = n from Nat.min_eq_left hn]
  exact Int.fdiv_eq_ediv_of_nonneg _ (Int.le_of_lt (Int.pow_pos (by decide)))
end Go.Proofs.YtpmnfhifmmfglacDoor

namespace Go.Proofs.YtpmnfhifmmfglacDoor
open Go
theorem down_eq (N : Nat) {n b : Int} (hb : 1 ≤ b ∧ b ≤ 1000000) (hn : -4611686018427387904 ≤ n ∧ n ≤ 4611686018427387904) : D_darkslideref_down N n b = some (n / b) := by
  have hd := Int.mul_ediv_add_emod n b
  have hr0 := Int.emod_nonneg n (show b ≠ 0 by omega)
  have hr1 := Int.emod_lt_of_pos n (show 0 < b by omega)
  obtain ⟨q, hq⟩ : ∃ q, n / b = q := ⟨_, rfl⟩
  obtain ⟨r, hr⟩ : ∃ r, n % b = r := ⟨_, rfl⟩
  rw [hq, hr] at hd
  rw [hr] at hr0 hr1
  have hqb : -4611686018427387905 ≤ q ∧ q ≤ 4611686018427387904 := by
    have h1 : q ≤ 4611686018427387904 := by
      rw [← hq]
      exact Int.le_trans (Int.ediv_le_ediv (by omega) hn.2) (Int.ediv_le_of_le_mul (by omega) (by omega))
    have h2 : -4611686018427387905 ≤ q := by
      rw [← hq]
      exact Int.le_ediv_of_mul_le (by omega) (by omega)
    exact ⟨h2, h1⟩
  unfold D_darkslideref_down
  rw [nz_eq (by omega), bsome, bsome, Int.tdiv_eq_ediv, hq]
  by_cases h : 0 ≤ n ∨ b ∣ n
  · rw [if_pos h, Int.add_zero, w64 (x := q) (by omega), Int.mul_comm q b, w64 (x := b * q) (by omega), cF (dF (by omega))]
  · rw [if_neg h, Int.sign_eq_one_of_pos (by omega), w64 (x := q + 1) (by omega), Int.mul_comm (q + 1) b, Int.mul_add, Int.mul_one, w64 (x := b * q + b) (by omega), cT (dT (by omega)), bsome, w64 (by omega), Int.add_sub_cancel]
end Go.Proofs.YtpmnfhifmmfglacDoor

namespace Go.Proofs.YtpmnfhifmmfglacDoor
open Go
def okE (e : Int) : Bool := decide (0 ≤ e ∧ e ≤ 65535)
def plF (W H : Int) (P : List Int) : Bool := decide (sideOK W H P.length) && P.all okE
theorem dfine_l1 (N : Nat) {P : List Int} (hP : P.length ≤ 4096) (kk) : ∀ (j k fuel : Nat), k + j = P.length → j < fuel → D_diff_fine_l1 N P kk fuel (k : Int) = if (P.drop k).all okE = true then kk (P.length : Int) else some false := by
  intro j
  induction j with
  | zero =>
    intro k fuel hk hf
    obtain ⟨fuel, rfl⟩ : ∃ q, fuel = q + 1 := ⟨fuel - 1, by omega⟩
    obtain rfl : k = P.length := by omega
    unfold D_diff_fine_l1
    rw [cF (dF (by omega)), List.drop_length, if_pos (by rfl)]
  | succ j ih =>
    intro k fuel hk hf
    obtain ⟨fuel, rfl⟩ : ∃ q, fuel = q + 1 := ⟨fuel - 1, by omega⟩
    have hlt : k < P.length := by omega
    have hnx : IntKind.i64.wrap ((k : Int) + 1) = ((k + 1 : Nat) : Int) := by rw [w64 (by omega)]; rfl
    unfold D_diff_fine_l1
    rw [cT (dT (by omega)), idx_nat, List.getElem?_eq_getElem hlt, bsome, List.drop_eq_getElem_cons hlt, List.all_cons]
    by_cases h1 : P[k] < 0
    · rw [cT (dT h1), if_neg]
      rw [show okE P[k] = false from dF (by omega)]; simp
    rw [cF (dF h1)]
    by_cases h2 : 65535 < P[k]
    · rw [cT (dT h2), if_neg]
      rw [show okE P[k] = false from dF (by omega)]; simp
    rw [cF (dF h2), hnx, ih (k + 1) fuel (by omega) (by omega), show okE P[k] = true from dT (by omega), Bool.true_and]
theorem rfine_l1 (N : Nat) {P : List Int} (hP : P.length ≤ 4096) (kk) : ∀ (j k fuel : Nat), k + j = P.length → j < fuel → D_darkslideref_PlaneFine_l1 N P kk fuel (k : Int) = if (P.drop k).all okE = true then kk (P.length : Int) else some false := by
  intro j
  induction j with
  | zero =>
    intro k fuel hk hf
    obtain ⟨fuel, rfl⟩ : ∃ q, fuel = q + 1 := ⟨fuel - 1, by omega⟩
    obtain rfl : k = P.length := by omega
    unfold D_darkslideref_PlaneFine_l1
    rw [cF (dF (by omega)), List.drop_length, if_pos (by rfl)]
  | succ j ih =>
    intro k fuel hk hf
    obtain ⟨fuel, rfl⟩ : ∃ q, fuel = q + 1 := ⟨fuel - 1, by omega⟩
    have hlt : k < P.length := by omega
    have hnx : IntKind.i64.wrap ((k : Int) + 1) = ((k + 1 : Nat) : Int) := by rw [w64 (by omega)]; rfl
    unfold D_darkslideref_PlaneFine_l1
    rw [cT (dT (by omega)), idx_nat, List.getElem?_eq_getElem hlt, bsome, within2, bsome, List.drop_eq_getElem_cons hlt, List.all_cons]
    by_cases h1 : 0 ≤ P[k] ∧ P[k] ≤ 65535
    · rw [cF (by rw [dT h1]; rfl), hnx, bsome, ih (k + 1) fuel (by omega) (by omega), show okE P[k] = true from dT h1, Bool.true_and]
    · rw [cT (by rw [dF h1]; rfl), if_neg]
      rw [show okE P[k] = false from dF h1]; simp
theorem plF_no {W H : Int} {P : List Int} (h : ¬ sideOK W H P.length) : plF W H P = false := by unfold plF; rw [dF h]; rfl
theorem dfine_eq (N : Nat) (hN : 5000 ≤ N) (W H : Int) (P : List Int) : D_diff_fine N W H P = some (plF W H P) := by
  unfold D_diff_fine
  by_cases h1 : W < 1
  · rw [cT (dT h1), plF_no (fun h => by unfold sideOK at h; omega)]
  rw [cF (dF h1)]
  by_cases h2 : 64 < W
  · rw [cT (dT h2), plF_no (fun h => by unfold sideOK at h; omega)]
  rw [cF (dF h2)]
  by_cases h3 : H < 1
  · rw [cT (dT h3), plF_no (fun h => by unfold sideOK at h; omega)]
  rw [cF (dF h3)]
  by_cases h4 : 64 < H
  · rw [cT (dT h4), plF_no (fun h => by unfold sideOK at h; omega)]
  have hb := mul_bd (W := W) (H := H) (by omega)
  rw [cF (dF h4), w64 (by omega)]
  by_cases h5 : (P.length : Int) = W * H
  rotate_left
  · rw [cT (by rw [dF h5]; rfl), plF_no (fun h => by unfold sideOK at h; exact h5 h.2.2.2.2)]
  have hs : sideOK W H P.length := ⟨by omega, by omega, by omega, by omega, h5⟩
  rw [cF (by rw [dT h5]; rfl)]
  have key := dfine_l1 N (P := P) (by omega) (fun _ => some true) P.length 0 N (by omega) (by omega)
  refine Eq.trans key ?_
  unfold plF
  rw [dT hs, Bool.true_and, List.drop_zero]
  split
  · rename_i h; rw [h]
  · rename_i h; rw [(Bool.not_eq_true _).mp h]
theorem rfine_eq (N : Nat) (hN : 5000 ≤ N) (W H : Int) (P : List Int) : D_darkslideref_PlaneFine N W H P = some (plF W H P) := by
  unfold D_darkslideref_PlaneFine
  rw [within2, bsome]
  by_cases h1 : 1 ≤ W ∧ W ≤ 64
  rotate_left
  · rw [cT (by rw [dF h1]; rfl), plF_no (fun h => by unfold sideOK at h; omega)]
  rw [cF (by rw [dT h1]; rfl), within2, bsome]
  by_cases h3 : 1 ≤ H ∧ H ≤ 64
  rotate_left
  · rw [cT (by rw [dF h3]; rfl), plF_no (fun h => by unfold sideOK at h; omega)]
  have hb := mul_bd (W := W) (H := H) (by omega)
  rw [cF (by rw [dT h3]; rfl), w64 (by omega)]
  by_cases h5 : (P.length : Int) = W * H
  rotate_left
  · rw [cT (by rw [dF h5]; rfl), plF_no (fun h => by unfold sideOK at h; exact h5 h.2.2.2.2)]
  have hs : sideOK W H P.length := ⟨by omega, by omega, by omega, by omega, h5⟩
  rw [cF (by rw [dT h5]; rfl)]
  have key := rfine_l1 N (P := P) (by omega) (fun _ => some true) P.length 0 N (by omega) (by omega)
  refine Eq.trans key ?_
  unfold plF
  rw [dT hs, Bool.true_and, List.drop_zero]
  split
  · rename_i h; rw [h]
  · rename_i h; rw [(Bool.not_eq_true _).mp h]
def gsv (kind a b c : Int) : Int := if kind = 1 then a else if kind = 2 then b else if kind = 3 then c else if kind = 4 then a + b - c else if kind = 5 then a + (b - c) / 2 else if kind = 6 then b + (a - c) / 2 else (a + b) / 2
def gs (W : Nat) (P : List Int) (kind : Int) (i : Nat) : Int := if i = 0 then 32768 else if i / W = 0 then P.getD (i - 1) 0 else if i % W = 0 then P.getD (i - W) 0 else gsv kind (P.getD (i - 1) 0) (P.getD (i - W) 0) (P.getD (i - W - 1) 0)
section
variable {P : List Int} (hP : ∀ e ∈ P, 0 ≤ e ∧ e ≤ 65535)
include hP in
theorem P_at {j : Nat} (h : j < P.length) : idx P (j : Int) = some (P.getD j 0) ∧ 0 ≤ P.getD j 0 ∧ P.getD j 0 ≤ 65535 := by
  have e : P.getD j 0 = P[j] := by rw [List.getD_eq_getElem?_getD, List.getElem?_eq_getElem h]; rfl
  rw [e, idx_nat, List.getElem?_eq_getElem h]
  exact ⟨rfl, hP _ (List.getElem_mem h)⟩
theorem nat_div_pos {i W : Nat} (h : i / W ≠ 0) : W ≤ i ∧ 0 < W := by
  rcases Nat.eq_zero_or_pos W with h0 | h0
  · subst h0; simp at h
  · refine ⟨?_, h0⟩
    rcases Nat.lt_or_ge i W with h1 | h1
    · exact absurd (Nat.div_eq_of_lt h1) h
    · exact h1
include hP in
theorem guess_code (N : Nat) {W : Nat} (hW : 1 ≤ W ∧ W ≤ 64) {kind : Int} (hk : 1 ≤ kind ∧ kind ≤ 7) (H : Int) {i : Nat} (hi : i < P.length) (hl : P.length ≤ 4096) : D_diff_guess N (W : Int) H P kind (i : Int) = some (gs W P kind i) := by
  unfold D_diff_guess gs
  obtain ⟨t1, t2⟩ := tdm (W := W) i (by omega)
  rw [nz_eq (by omega), bsome, bsome, t2, t1]
  by_cases h0 : i = 0
  · rw [cT (dT (by omega)), if_pos h0]
  have hdl : i / W ≤ i := Nat.div_le_self _ _
  rw [cF (dF (by omega)), if_neg h0, w64 (x := ((i / W : Nat) : Int)) ⟨Int.le_trans (by decide) (Int.natCast_nonneg _), Int.le_trans (Int.ofNat_le.2 hdl) (by omega)⟩]
  have e1 : IntKind.i64.wrap ((i : Int) - 1) = ((i - 1 : Nat) : Int) := by rw [w64 (by omega)]; omega
  by_cases h1 : i / W = 0
  · rw [cT (dT (by rw [h1]; rfl)), if_pos h1, e1, (P_at hP (j := i - 1) (by omega)).1]; rfl
  obtain ⟨hWi, hW0⟩ := nat_div_pos h1
  have e2 : IntKind.i64.wrap ((i : Int) - (W : Int)) = ((i - W : Nat) : Int) := by rw [w64 (by omega)]; omega
  rw [cF (dF (fun h => h1 (by exact_mod_cast h))), if_neg h1, e2]
  by_cases h2 : i % W = 0
  · rw [cT (dT (by rw [h2]; rfl)), if_pos h2, (P_at hP (j := i - W) (by omega)).1]; rfl
  have hlt : W < i := by
    rcases Nat.lt_or_ge W i with h | h
    · exact h
    · obtain rfl : i = W := by omega
      simp at h2
  have e3 : IntKind.i64.wrap (((i - W : Nat) : Int) - 1) = ((i - W - 1 : Nat) : Int) := by rw [w64 (by omega)]; omega
  obtain ⟨a1, a2⟩ := P_at hP (j := i - 1) (by omega)
  obtain ⟨b1, b2⟩ := P_at hP (j := i - W) (by omega)
  obtain ⟨c1, c2⟩ := P_at hP (j := i - W - 1) (by omega)
  rw [cF (dF (fun h => h2 (by exact_mod_cast h))), if_neg h2, e1, a1, bsome, b1, bsome, e3, c1, bsome]
  generalize P.getD (i - 1) 0 = a at *
  generalize P.getD (i - W) 0 = b at *
  generalize P.getD (i - W - 1) 0 = c at *
  have s1 : ∀ m : Int, shrI .i64 m 1 = m / 2 := fun m => shr_eq m 1 (by decide)
  rw [s1, s1, s1, w64 (x := a + b) (by omega), w64 (x := a + b - c) (by omega), w64 (x := b - c) (by omega), w64 (x := a - c) (by omega), w64 (x := a + (b - c) / 2) (by omega), w64 (x := b + (a - c) / 2) (by omega)]
  unfold gsv
  rcases (show kind = 1 ∨ kind = 2 ∨ kind = 3 ∨ kind = 4 ∨ kind = 5 ∨ kind = 6 ∨ kind = 7 by omega) with rfl | rfl | rfl | rfl | rfl | rfl | rfl <;> rfl
include hP in
theorem at_eq (N : Nat) {W x y : Nat} (H : Int) (hW : W ≤ 64) (hx : x ≤ 64) (hy : y ≤ 64) (h : y * W + x < P.length) : D_darkslideref_At N (W : Int) H P (x : Int) (y : Int) = some (P.getD (y * W + x) 0) := by
  have hyw : y * W ≤ 64 * 64 := Nat.mul_le_mul hy hW
  have e : (y : Int) * (W : Int) = ((y * W : Nat) : Int) := by simp
  have e2 : IntKind.i64.wrap (IntKind.i64.wrap ((y : Int) * (W : Int)) + (x : Int)) = ((y * W + x : Nat) : Int) := by
    rw [e, w64 (x := ((y * W : Nat) : Int)) (by omega), w64 (by omega)]; omega
  unfold D_darkslideref_At
  rw [e2, (P_at hP h).1]; rfl
include hP in
theorem guessOf_eq (N : Nat) {W : Nat} (hW : 1 ≤ W ∧ W ≤ 64) {kind : Int} (hk : 1 ≤ kind ∧ kind ≤ 7) (H : Int) {x y : Nat} (hx : x < W) (hy : y < 64) (hi : y * W + x < P.length) (hl : P.length ≤ 4096) : D_darkslideref_GuessOf N (W : Int) H P kind (x : Int) (y : Int) = some (gs W P kind (y * W + x)) := by
  obtain ⟨d1, d2⟩ := dm (W := W) y hx
  have fin : ∀ (a b c : Int), 0 ≤ a ∧ a ≤ 65535 → 0 ≤ b ∧ b ≤ 65535 → 0 ≤ c ∧ c ≤ 65535 → (cond (decide (kind = 1)) (
      some a) (
      cond (decide (kind = 2)) (
      some b) (
      cond (decide (kind = 3)) (
      some c) (
      cond (decide (kind = 4)) (
      some (IntKind.i64.wrap ((IntKind.i64.wrap (a + b)) - c))) (
      cond (decide (kind = 5)) (
      Option.bind (D_darkslideref_down N (IntKind.i64.wrap (b - c)) 2) fun r15 =>
      some (IntKind.i64.wrap (a + r15))) (
      cond (decide (kind = 6)) (
      Option.bind (D_darkslideref_down N (IntKind.i64.wrap (a - c)) 2) fun r16 =>
      some (IntKind.i64.wrap (b + r16))) (
      Option.bind (D_darkslideref_down N (IntKind.i64.wrap (a + b)) 2) fun r17 =>
      some r17)))))) : Option Int) = some (gsv kind a b c) := by
    intro a b c ha hb hc
    rw [w64 (x := a + b) (by omega), w64 (x := a + b - c) (by omega), w64 (x := b - c) (by omega), w64 (x := a - c) (by omega), down_eq N (by omega) (by omega), down_eq N (by omega) (by omega), down_eq N (by omega) (by omega), bsome, bsome, bsome, w64 (x := a + (b - c) / 2) (by omega), w64 (x := b + (a - c) / 2) (by omega)]
    unfold gsv
    rcases (show kind = 1 ∨ kind = 2 ∨ kind = 3 ∨ kind = 4 ∨ kind = 5 ∨ kind = 6 ∨ kind = 7 by omega) with rfl | rfl | rfl | rfl | rfl | rfl | rfl <;> rfl
  unfold D_darkslideref_GuessOf gs
  rw [d2, d1]
  by_cases h0 : x = 0
  · subst h0
    rw [cT (dT (by rfl))]
    by_cases h1 : y = 0
    · subst h1
      rw [cT (dT (by rfl)), if_pos (by simp)]
    · have hyw : 1 ≤ y * W := Nat.mul_pos (by omega) (by omega)
      have e : IntKind.i64.wrap ((y : Int) - 1) = ((y - 1 : Nat) : Int) := by rw [w64 (by omega)]; omega
      have e2 : (y - 1) * W + 0 = y * W + 0 - W := by rw [Nat.sub_mul]; omega
      have hle : (y - 1) * W ≤ y * W := Nat.mul_le_mul_right _ (by omega)
      rw [cF (dF (by omega)), cF (dF (by omega)), cT (dT (by rfl)), e]
      have := at_eq hP N (W := W) (x := 0) (y := y - 1) H (by omega) (by omega) (by omega) (by omega)
      rw [show ((0 : Nat) : Int) = 0 from rfl] at this
      rw [this, bsome, if_neg (by omega), if_neg (by omega), if_pos rfl, e2]
  · rw [cF (dF (by omega))]
    have ex : IntKind.i64.wrap ((x : Int) - 1) = ((x - 1 : Nat) : Int) := by rw [w64 (by omega)]; omega
    by_cases h1 : y = 0
    · subst h1
      have := at_eq hP N (W := W) (x := x - 1) (y := 0) H (by omega) (by omega) (by omega) (by omega)
      rw [show ((0 : Nat) : Int) = 0 from rfl] at this
      rw [cT (dT (by rfl)), ex, this, bsome, if_neg (by omega), if_pos rfl]
      congr 2
      omega
    · have e : IntKind.i64.wrap ((y : Int) - 1) = ((y - 1 : Nat) : Int) := by rw [w64 (by omega)]; omega
      have hsub : (y - 1) * W = y * W - W := by rw [Nat.sub_mul]; omega
      have hyw : W ≤ y * W := Nat.le_mul_of_pos_left W (by omega)
      rw [cF (dF (by omega)), cF (dF (by omega)), ex, e, at_eq hP N (W := W) (x := x - 1) (y := y) H (by omega) (by omega) (by omega) (by omega), bsome, at_eq hP N (W := W) (x := x) (y := y - 1) H (by omega) (by omega) (by omega) (by omega), bsome, at_eq hP N (W := W) (x := x - 1) (y := y - 1) H (by omega) (by omega) (by omega) (by omega), bsome, if_neg (by omega), if_neg (by omega), if_neg (by omega)]
      rw [show y * W + (x - 1) = y * W + x - 1 by omega, show (y - 1) * W + x = y * W + x - W by omega, show (y - 1) * W + (x - 1) = y * W + x - W - 1 by omega]
      exact fin _ _ _ (P_at hP (by omega)).2 (P_at hP (by omega)).2 (P_at hP (by omega)).2
end
theorem plF_nat {W H : Int} {P : List Int} (h : plF W H P = true) : ∃ w k : Nat, W = w ∧ H = k ∧ 1 ≤ w ∧ w ≤ 64 ∧ 1 ≤ k ∧ k ≤ 64 ∧ P.length = w * k ∧ w * k ≤ 4096 ∧ ∀ e ∈ P, 0 ≤ e ∧ e ≤ 65535 := by
  unfold plF at h
  rw [Bool.and_eq_true] at h
  obtain ⟨h1, h2⟩ := h
  obtain ⟨a, b, c, d, e⟩ := of_decide_eq_true h1
  obtain ⟨w, rfl⟩ := Int.eq_ofNat_of_zero_le (show 0 ≤ W by omega)
  obtain ⟨k, rfl⟩ := Int.eq_ofNat_of_zero_le (show 0 ≤ H by omega)
  have hm := Nat.mul_le_mul (show w ≤ 64 by omega) (show k ≤ 64 by omega)
  exact ⟨w, k, rfl, rfl, by omega, by omega, by omega, by omega, by exact_mod_cast e, by omega, fun e he => of_decide_eq_true (List.all_eq_true.1 h2 e he)⟩
theorem diffBegun_eq : D_darkslidelaw_diffBegun 100000 = some true := by kernel_rfl
theorem diffGuesses_true (W H : Int) (P : List Int) (kind x y : Int) : D_darkslidelaw_DiffGuesses 100000 W H P kind x y = some true := by
  unfold D_darkslidelaw_DiffGuesses D_diff_Guess
  rw [dfine_eq _ (by decide), bsome, rfine_eq _ (by decide)]
  by_cases hp : plF W H P = true
  rotate_left
  · rw [(Bool.not_eq_true _).mp hp, Bool.not_false, cT rfl, bsome, bsome, Bool.not_false, cT rfl, diffBegun_eq, bsome, cT rfl, cT (by rfl)]; rfl
  rw [hp, Bool.not_true, cF rfl]
  by_cases h1 : kind < 1
  · rw [cT (dT h1), bsome, bsome, Bool.not_true, cF rfl, cT (dT h1), diffBegun_eq, bsome, cT rfl, cT (by rfl)]; rfl
  rw [cF (dF h1)]
  by_cases h2 : 7 < kind
  · rw [cT (dT h2), bsome, bsome, Bool.not_true, cF rfl, cF (dF h1), cT (dT h2), diffBegun_eq, bsome, cT rfl, cT (by rfl)]; rfl
  rw [cF (dF h2)]
  by_cases h3 : x < 0
  · rw [cT (dT h3), bsome, bsome, Bool.not_true, cF rfl, cF (dF h1), cF (dF h2), cT (dT h3), diffBegun_eq, bsome, cT rfl, cT (by rfl)]; rfl
  rw [cF (dF h3)]
  by_cases h4 : W ≤ x
  · rw [cT (dT h4), bsome, bsome, Bool.not_true, cF rfl, cF (dF h1), cF (dF h2), cF (dF h3), cT (dT h4), diffBegun_eq, bsome, cT rfl, cT (by rfl)]; rfl
  rw [cF (dF h4)]
  by_cases h5 : y < 0
  · rw [cT (dT h5), bsome, bsome, Bool.not_true, cF rfl, cF (dF h1), cF (dF h2), cF (dF h3), cF (dF h4), cT (dT h5), diffBegun_eq, bsome, cT rfl, cT (by rfl)]; rfl
  rw [cF (dF h5)]
  by_cases h6 : H ≤ y
  · rw [cT (dT h6), bsome, bsome, Bool.not_true, cF rfl, cF (dF h1), cF (dF h2), cF (dF h3), cF (dF h4), cF (dF h5), cT (dT h6), diffBegun_eq, bsome, cT rfl, cT (by rfl)]; rfl
  rw [cF (dF h6)]
  obtain ⟨w, k, rfl, rfl, a1, a2, a3, a4, a5, a6, hP⟩ := plF_nat hp
  obtain ⟨X, rfl⟩ := Int.eq_ofNat_of_zero_le (show 0 ≤ x by omega)
  obtain ⟨Y, rfl⟩ := Int.eq_ofNat_of_zero_le (show 0 ≤ y by omega)
  have hpl := place_lt (W := w) (H := k) (x := X) (y := Y) (by omega) (by omega)
  have hyw : Y * w ≤ 64 * 64 := Nat.mul_le_mul (by omega) a2
  have e : IntKind.i64.wrap (IntKind.i64.wrap ((Y : Int) * (w : Int)) + (X : Int)) = ((Y * w + X : Nat) : Int) := by
    rw [show (Y : Int) * (w : Int) = ((Y * w : Nat) : Int) by simp, w64 (x := ((Y * w : Nat) : Int)) (by omega), w64 (by omega)]; omega
  rw [e, guess_code hP _ ⟨a1, a2⟩ (by omega) _ (by omega) (by omega), bsome, bsome, bsome, Bool.not_true, cF rfl, cF (dF h1), cF (dF h2), cF (dF h3), cF (dF h4), cF (dF h5), cF (dF h6), diffBegun_eq, bsome, cT rfl, cT (by rfl), guessOf_eq hP _ ⟨a1, a2⟩ (by omega) _ (by omega) (by omega) (by omega) (by omega), bsome]
  exact congrArg some (dT rfl)
end Go.Proofs.YtpmnfhifmmfglacDoor

namespace Go.Proofs.YtpmnfhifmmfglacDoor
open Go.RowKit
section
variable {P : Program} {ops : Array Oper} {Q O : Exit → Act → World → Prop} {S : World → Prop} {rob need : Nat → Bool} {R : Act → World → Prop}
def rdy (ops : Array Oper) (rem : List Nat) (i : Nat) : Bool := rem.all fun j => !waits ops i j
def wpTr (P : Program) (O : Exit → Act → World → Prop) (ops : Array Oper) (S : World → Prop) (rob need : Nat → Bool) (R : Act → World → Prop) : Nat → List Nat → Act → World → Prop
  | 0, rem, a, w => rem = [] ∧ R a w
  | n + 1, rem, a, w =>
    (∃ i ∈ rem, rob i = true ∧ rdy ops rem i = true ∧ ∃ o, ops[i]? = some o ∧ ∃ v, YldS P ops S o v a ∧ wpTr P O ops S rob need R n (rem.erase i) (a.put o.dst v) w) ∨
    ((∀ i ∈ rem, rob i = true → rdy ops rem i = false) ∧ ∀ c ∈ rem, rob c = false → rdy ops rem c = true → wpOp P ops O c (fun a' w' => (need c = true → S w') ∧ wpTr P O ops S rob need R n (rem.erase c) a' w') a w)
def trPair (ops : Array Oper) (rob : Nat → Bool) (i j : Nat) : Bool :=
  match ops[i]?, ops[j]? with
  | some oi, some oj => waits ops i j || ((!rob i || oi.apart ops oj) && (!rob j || oj.apart ops oi))
  | _, _ => false
def trOK (ops : Array Oper) (rob need : Nat → Bool) : Bool :=
  Region.noSelect ops && txtBack ops && ((List.range ops.size).all fun i => (List.range i).all fun j => trPair ops rob i j) &&
  (List.range ops.size).all fun i => rob i || need i || !freeOf ops rob i
/-- Ways out that ask nothing of the slots. -/
def Dull (O : Exit → Act → World → Prop) : Prop := (∀ e a d v w, O e (a.put d v) w → O e a w) ∧ ¬ LetsOut O
theorem dull_no : Dull NoOut := ⟨fun _ _ _ _ _ h => h.elim, fun ⟨_, _, h⟩ => h.elim⟩
theorem wpOp_aheadO (hO : Dull O) {j : Nat} {oi oj : Oper} {v : Value} (hj : ops[j]? = some oj) (hap : oi.apart ops oj = true)
    (hsi : ∀ cs b, oi.op ≠ .select cs b) (hsj : ∀ cs b, oj.op ≠ .select cs b) {K : Act → World → Prop} {a : Act} {w : World}
    (hy : YldS P ops S oi v a) (h : wpOp P ops O j K (a.put oi.dst v) w) :
    wpOp P ops O j (fun a' w' => YldS P ops S oi v a' ∧ K (a'.put oi.dst v) w') a w := by
  obtain ⟨h1, h2, h3⟩ := Oper.apart_spec hap
  have keep : ∀ (a : Act), YldS P ops S oi v a → ∀ u, YldS P ops S oi v (a.put oj.dst u) := fun a hy u =>
    hy.same (execOp_put oi hsi a oj.dst u h3) (wanted_put oi a oj.dst u h3)
  have keepD : ∀ d, YldS P ops S oi v { a with defers := d :: a.defers } := fun d => hy.same rfl rfl
  unfold wpOp at *
  simp only [hj] at *
  rw [wanted_put oj a oi.dst v h1] at h
  split
  · rename_i hw
    simp only [hw, if_true] at h
    rcases h with h | ⟨_, hl⟩
    case inr => exact absurd hl hO.2
    refine .inl ?_
    unfold Oper.wp at *
    rw [execOp_put oj hsj a oi.dst v h1] at h
    generalize (execOp a.eval oj).run P w = r at *
    cases r with
    | ok n w' =>
      cases n <;> simp only [Oper.upon] at h ⊢
      case value u => exact ⟨keep a hy u, by rw [← Act.put_comm a v u h2]; exact h⟩
      case skip => exact ⟨keep a hy _, by rw [← Act.put_comm a v undef h2]; exact h⟩
      case defer d =>
        refine ⟨keep _ (keepD d) _, ?_⟩
        rw [← Act.put_comm _ v undef h2, ← Act.put_defers]
        exact h
      case enter f args =>
        refine Calls.mono h fun e w'' he => ?_
        cases e with
        | returned u => exact ⟨keep a hy u, by rw [← Act.put_comm a v u h2]; exact he⟩
        | panicked c => exact hO.1 _ _ _ _ _ he
        | outgrown => exact absurd he hO.2
      case row row args => exact Rows.mono h fun u w'' he => ⟨keep a hy u, by rw [← Act.put_comm a v u h2]; exact he⟩
    | halt x w' => cases x <;> simp only [Oper.upon] at h ⊢; exact hO.1 _ _ _ _ _ h
  · rename_i hw
    simp only [hw] at h
    exact ⟨keep a hy _, by rw [← Act.put_comm a v undef h2]; exact h⟩
theorem wpOp_outO (hO : Dull O) (hQ : ∀ e a w, O e a w → Q e a w) {i : Nat} {K : Act → World → Prop} {a : Act} {w : World} (h : wpOp P ops O i K a w) : wpOp P ops Q i K a w := by
  unfold wpOp at *
  split
  · rename_i h0
    simp only [h0] at h
    exact h
  · rename_i o ho
    simp only [ho] at h
    split
    · rename_i hw
      rw [if_pos hw] at h
      rcases h with h | ⟨_, hl⟩
      case inr => exact absurd hl hO.2
      refine .inl ?_
      unfold Oper.wp at *
      generalize (execOp a.eval o).run P w = r at *
      cases r with
      | ok n w' =>
        cases n <;> simp only [Oper.upon] at h ⊢ <;> first
          | exact h
          | (refine Calls.mono h fun e w'' he => ?_
             cases e with
             | returned u => exact he
             | panicked c => exact hQ _ _ _ he
             | outgrown => exact absurd he hO.2)
      | halt x w' => cases x <;> simp only [Oper.upon] at h ⊢; exact hQ _ _ _ h
    · rename_i hw
      rw [if_neg hw] at h
      exact h
theorem rdy_erase {rem : List Nat} {i k : Nat} (h : rdy ops rem i = true) : rdy ops (rem.erase k) i = true := by
  unfold rdy at *
  rw [List.all_eq_true] at *
  exact fun j hj => h j (List.mem_of_mem_erase hj)
theorem rdy_waits {rem : List Nat} {i j : Nat} (h : rdy ops rem i = true) (hj : j ∈ rem) : waits ops i j = false := by
  unfold rdy at h
  rw [List.all_eq_true] at h
  simpa using h j hj
theorem tr_pull {i : Nat} {oi : Oper} (hi : ops[i]? = some oi) (hr : rob i = true) (hsel : ∀ (j : Nat) (o : Oper) cs b, ops[j]? = some o → o.op ≠ .select cs b)
    (hpair : ∀ j k oj ok, j ≠ k → ops[j]? = some oj → ops[k]? = some ok → waits ops j k = false → waits ops k j = false → (rob j = true → oj.apart ops ok = true)) :
    ∀ (n : Nat) (rem : List Nat) (a : Act) (w : World), i ∈ rem → rdy ops rem i = true → wpTr P O ops S rob need R (n + 1) rem a w → ∃ v, YldS P ops S oi v a ∧ wpTr P O ops S rob need R n (rem.erase i) (a.put oi.dst v) w := by
  intro n
  induction n with
  | zero =>
    intro rem a w him hrd h
    rcases h with ⟨i0, hi0, hr0, hd0, o0, ho0, u, hu, h⟩ | ⟨hno, _⟩
    · obtain ⟨hnil, hR⟩ := h
      have : i0 = i := by
        by_cases e : i0 = i
        · exact e
        · have : i ∈ rem.erase i0 := (List.mem_erase_of_ne (fun h => e h.symm)).2 him
          rw [hnil] at this; cases this
      subst this
      obtain rfl : o0 = oi := Option.some.inj (ho0.symm.trans hi)
      exact ⟨u, hu, hnil, hR⟩
    · rw [hno i him hr] at hrd; cases hrd
  | succ n ih =>
    intro rem a w him hrd h
    rcases h with ⟨i0, hi0, hr0, hd0, o0, ho0, u, hu, h⟩ | ⟨hno, _⟩
    · by_cases e : i0 = i
      · subst e
        obtain rfl : o0 = oi := Option.some.inj (ho0.symm.trans hi)
        exact ⟨u, hu, h⟩
      · have him' : i ∈ rem.erase i0 := (List.mem_erase_of_ne (fun h => e h.symm)).2 him
        obtain ⟨v, hv, h⟩ := ih _ _ _ him' (rdy_erase hrd) h
        have w1 := rdy_waits hrd hi0
        have w2 := rdy_waits hd0 him
        have ap1 := hpair i i0 oi o0 (fun h => e h.symm) hi ho0 w1 w2 hr
        have ap2 := hpair i0 i o0 oi e ho0 hi w2 w1 hr0
        obtain ⟨p1, p2, p3⟩ := Oper.apart_spec ap1
        obtain ⟨q1, q2, q3⟩ := Oper.apart_spec ap2
        have hv' : YldS P ops S oi v a := hv.same (execOp_put oi (fun cs b => hsel i oi cs b hi) a o0.dst u p3).symm (wanted_put oi a o0.dst u p3).symm
        refine ⟨v, hv', .inl ⟨i0, (List.mem_erase_of_ne e).2 hi0, hr0, rdy_erase hd0, o0, ho0, u, ?_, ?_⟩⟩
        · exact hu.same (execOp_put o0 (fun cs b => hsel i0 o0 cs b ho0) a oi.dst v q3) (wanted_put o0 a oi.dst v q3)
        · rw [List.erase_comm, Act.put_comm a v u p2]; exact h
    · rw [hno i him hr] at hrd; cases hrd
theorem tr_push (hO : Dull O) {c : Nat} {oc : Oper} (hc : ops[c]? = some oc) (hrc : rob c = false) (hsel : ∀ (j : Nat) (o : Oper) cs b, ops[j]? = some o → o.op ≠ .select cs b)
    (hpair : ∀ j k oj ok, j ≠ k → ops[j]? = some oj → ops[k]? = some ok → waits ops j k = false → waits ops k j = false → (rob j = true → oj.apart ops ok = true)) :
    ∀ (n : Nat) (rem : List Nat) (a : Act) (w : World), c ∈ rem → rdy ops rem c = true → wpTr P O ops S rob need R (n + 1) rem a w → wpOp P ops O c (fun a' w' => (need c = true → S w') ∧ wpTr P O ops S rob need R n (rem.erase c) a' w') a w := by
  intro n
  induction n with
  | zero =>
    intro rem a w hcm hrd h
    rcases h with ⟨i0, hi0, hr0, hd0, o0, ho0, u, hu, h⟩ | ⟨_, h⟩
    · obtain ⟨hnil, hR⟩ := h
      have e : i0 ≠ c := fun e => by subst e; rw [hrc] at hr0; cases hr0
      have : c ∈ rem.erase i0 := (List.mem_erase_of_ne (fun h => e h.symm)).2 hcm
      rw [hnil] at this; cases this
    · exact h c hcm hrc hrd
  | succ n ih =>
    intro rem a w hcm hrd h
    rcases h with ⟨i0, hi0, hr0, hd0, o0, ho0, u, hu, h⟩ | ⟨_, h⟩
    · have e : i0 ≠ c := fun e => by subst e; rw [hrc] at hr0; cases hr0
      have hcm' : c ∈ rem.erase i0 := (List.mem_erase_of_ne (fun h => e h.symm)).2 hcm
      have h2 := ih _ _ _ hcm' (rdy_erase hrd) h
      have w1 := rdy_waits hrd hi0
      have w2 := rdy_waits hd0 hcm
      have ap := hpair i0 c o0 oc e ho0 hc w2 w1 hr0
      have h3 := wpOp_aheadO hO hc ap (fun cs b => hsel i0 o0 cs b ho0) (fun cs b => hsel c oc cs b hc) hu h2
      refine wpOp_mono ?_ h3
      rintro a' w' ⟨hy, hn, hk⟩
      refine ⟨hn, .inl ⟨i0, (List.mem_erase_of_ne e).2 hi0, hr0, rdy_erase hd0, o0, ho0, u, hy, ?_⟩⟩
      rw [List.erase_comm]; exact hk
    · exact h c hcm hrc hrd
theorem filter_ne_erase {l : List Nat} (hl : l.Nodup) (i : Nat) : l.filter (· != i) = l.erase i := by
  rw [List.Nodup.erase_eq_filter hl]
theorem wpAny_of_tr (hO : Dull O) (hQ : ∀ e a w, O e a w → Q e a w) (hok : trOK ops rob need = true) : ∀ (fuel : Nat) (listed : Array Bool) (a : Act) (w : World), listed.size = ops.size → Closed ops listed → (remOf ops listed).length = fuel →
    (∀ r ∈ remOf ops listed, rob r = true → S w) → wpTr P O ops S rob need (Q .normal) fuel (remOf ops listed) a w → wpAny P .any ops Q fuel listed a w := by
  simp only [trOK, Bool.and_eq_true] at hok
  obtain ⟨⟨⟨hsel0, hback⟩, hpair0⟩, hneed⟩ := hok
  have hsel := Region.noSelect_spec hsel0
  have hp : ∀ i < ops.size, ∀ j < i, trPair ops rob i j = true := fun i hi j hj => List.all_eq_true.1 (List.all_eq_true.1 hpair0 i (List.mem_range.2 hi)) j (List.mem_range.2 hj)
  have hpair : ∀ j k oj ok, j ≠ k → ops[j]? = some oj → ops[k]? = some ok → waits ops j k = false → waits ops k j = false → (rob j = true → oj.apart ops ok = true) := by
    intro j k oj ok hjk hj hk w1 w2 hr
    have hjl := (Array.getElem?_eq_some_iff.1 hj).1
    have hkl := (Array.getElem?_eq_some_iff.1 hk).1
    rcases Nat.lt_or_gt_of_ne hjk with hlt | hlt
    · have h := hp k hkl j hlt
      unfold trPair at h
      simp only [hj, hk, w2, Bool.false_or, Bool.and_eq_true, Bool.or_eq_true, Bool.not_eq_true'] at h
      rcases h.2 with h0 | h0
      · rw [hr] at h0; cases h0
      · exact h0
    · have h := hp j hjl k hlt
      unfold trPair at h
      simp only [hj, hk, w1, Bool.false_or, Bool.and_eq_true, Bool.or_eq_true, Bool.not_eq_true'] at h
      rcases h.1 with h0 | h0
      · rw [hr] at h0; cases h0
      · exact h0
  have hbk : ∀ i o, ops[i]? = some o → ∀ e ∈ o.after, Region.binds .any e = true → e.on < i := fun i o ho e he hb => by
    have hi : i < ops.size := (Array.getElem?_eq_some_iff.1 ho).1
    have h := List.all_eq_true.1 hback i (List.mem_range.2 hi)
    simp only [ho] at h
    have h2 := Array.all_eq_true_iff_forall_mem.1 h e he
    simpa [hb] using h2
  have hnd : ∀ i < ops.size, rob i = false → ∀ r < ops.size, rob r = true → waits ops i r = false → need i = true := fun i hi hri r hr hrr hw => by
    have h := List.all_eq_true.1 hneed i (List.mem_range.2 hi)
    simp only [hri, Bool.false_or, Bool.or_eq_true, Bool.not_eq_true'] at h
    refine h.resolve_right fun h0 => ?_
    have : freeOf ops rob i = true := by
      refine List.any_eq_true.2 ⟨r, List.mem_range.2 hr, ?_⟩
      have : r ≠ i := fun e => by subst e; rw [hri] at hrr; cases hrr
      simp [hrr, hw, this]
    rw [this] at h0
    cases h0
  intro fuel
  induction fuel with
  | zero =>
    intro listed a w hs hc hlen _ h
    have hnil : remOf ops listed = [] := List.eq_nil_of_length_eq_zero hlen
    obtain ⟨_, h⟩ := h
    refine ⟨?_, h⟩
    refine List.eq_nil_iff_forall_not_mem.2 fun i hi => ?_
    obtain ⟨h0, o, ho, _⟩ := mem_ready.1 hi
    have : i ∈ remOf ops listed := mem_remOf.2 ⟨(Array.getElem?_eq_some_iff.1 ho).1, h0⟩
    rw [hnil] at this
    cases this
  | succ fuel ih =>
    intro listed a w hs hc hlen hS h
    refine ⟨fun h0 => ?_, fun i hi => ?_⟩
    · exfalso
      match hr : remOf ops listed, hlen with
      | i0 :: rest, _ =>
        have hm0 : i0 ∈ remOf ops listed := by rw [hr]; exact List.mem_cons_self ..
        obtain ⟨hlt, hun⟩ := mem_remOf.1 hm0
        have hsorted := remOf_sorted (ops := ops) listed
        rw [hr, List.pairwise_cons] at hsorted
        have : i0 ∈ Region.ready .any ops listed := by
          refine mem_ready.2 ⟨hun, ops[i0], Array.getElem?_eq_getElem hlt, fun e he hb => ?_⟩
          have hlt2 := hbk i0 _ (Array.getElem?_eq_getElem hlt) e he hb
          cases hl : listed.getD e.on false with
          | true => rfl
          | false =>
            have hm : e.on ∈ remOf ops listed := mem_remOf.2 ⟨by omega, by rw [listed_eq (by omega)]; exact hl⟩
            rw [hr] at hm
            rcases List.mem_cons.1 hm with hm | hm
            · omega
            · have := hsorted.1 _ hm; omega
        rw [h0] at this
        cases this
    · obtain ⟨hun, oi, hoi, hall⟩ := mem_ready.1 hi
      have hilt : i < ops.size := (Array.getElem?_eq_some_iff.1 hoi).1
      have him : i ∈ remOf ops listed := mem_remOf.2 ⟨hilt, hun⟩
      have hnodup : (remOf ops listed).Nodup := (remOf_sorted (ops := ops) listed).imp fun h => Nat.ne_of_lt h
      have hrem' : remOf ops (listed.setIfInBounds i true) = (remOf ops listed).erase i := by rw [remOf_set hs hilt, filter_ne_erase hnodup]
      have hlen' : (remOf ops (listed.setIfInBounds i true)).length = fuel := by
        rw [hrem', List.length_erase_of_mem him]; omega
      have hs' : (listed.setIfInBounds i true).size = ops.size := by simpa using hs
      have hc' : Closed ops (listed.setIfInBounds i true) := by
        intro k hk j hj
        by_cases hik : i = k
        · subst hik; exact getD_set_true (ready_waits hi hj)
        · rw [getD_set_ne false hik] at hk; exact getD_set_true (hc k hk j hj)
      have hrd : rdy ops (remOf ops listed) i = true := by
        unfold rdy
        rw [List.all_eq_true]
        intro j hj
        obtain ⟨h1, h2⟩ := mem_remOf.1 hj
        cases hw : waits ops i j with
        | false => rfl
        | true =>
          have := ready_waits hi hw
          rw [← listed_eq (by omega), h2] at this; cases this
      cases hri : rob i with
      | true =>
        have hSw : S w := hS i him hri
        obtain ⟨v, hv, hrest⟩ := tr_pull hoi hri hsel hpair fuel _ a w him hrd h
        refine hv.run hoi hSw (ih _ _ _ hs' hc' hlen' (fun _ _ _ => hSw) (by rw [hrem']; exact hrest))
      | false =>
        have h2 := tr_push hO hoi hri hsel hpair fuel _ a w him hrd h
        refine wpOp_outO hO hQ (wpOp_mono ?_ h2)
        rintro a' w' ⟨hn, hk⟩
        refine ih _ _ _ hs' hc' hlen' ?_ (by rw [hrem']; exact hk)
        intro r hr hrr
        rw [hrem'] at hr
        have hrm := List.mem_of_mem_erase hr
        exact hn (hnd i hilt hri r (mem_remOf.1 hrm).1 hrr (rdy_waits hrd hrm))
theorem wp_region_tO (hO : Dull O) (hQ : ∀ e a w, O e a w → Q e a w) {id : Nat} {a : Act} {w : World} {l : List Oper} (S : World → Prop) (f : List Nat) (n : Nat) (rem : List Nat) (hm : P.follows .mixedOrders = true) (hok : trOK l.toArray (robOf f) (needOf f) = true)
    (hl : List.range l.toArray.size = rem) (hn : rem.length = n) (hS : S w.drew) (h : wpTr P O l.toArray S (robOf f) (needOf f) (Q .normal) n rem a w.drew) : (Code.region id l.toArray true).wp P Q a w := by
  refine wp_region_any hm ?_
  have hrem : remOf l.toArray (Array.replicate l.toArray.size false) = List.range l.toArray.size := by
    unfold remOf
    refine List.filter_eq_self.2 fun i hi => ?_
    have := List.mem_range.1 hi
    simp at this
    simp [this]
  refine wpAny_of_tr hO hQ hok l.toArray.size (Array.replicate l.toArray.size false) a _ (by simp) ?_ (by rw [hrem]; simp) (fun _ _ _ => hS) ?_
  · intro i hi
    rw [getD_replicate_f] at hi
    cases hi
  · rw [hrem, hl]
    have : l.toArray.size = n := by rw [← hn, ← hl]; simp
    rw [this]; exact h
theorem wp_region_tr {id : Nat} {a : Act} {w : World} {l : List Oper} (S : World → Prop) (f : List Nat) (n : Nat) (rem : List Nat) (hm : P.follows .mixedOrders = true) (hok : trOK l.toArray (robOf f) (needOf f) = true)
    (hl : List.range l.toArray.size = rem) (hn : rem.length = n) (hS : S w.drew) (h : wpTr P NoOut l.toArray S (robOf f) (needOf f) (Q .normal) n rem a w.drew) : (Code.region id l.toArray true).wp P Q a w :=
  wp_region_tO dull_no (fun _ _ _ h => h.elim) S f n rem hm hok hl hn hS h
theorem put_defers (a : Act) (d : Option Nat) (v : Value) : (a.put d v).defers = a.defers := by cases d <;> rfl
variable {D : List Deferred} {a : Act} {w : World} {N : Nat} {l : List (Nat × Value)} {o : Oper} {v : Value} {post : Value → World → Prop} {d i c n : Nat} {rem rem' : List Nat} {f : List Nat}
theorem R_rd (i : Nat) (rem' : List Nat) (hc : (rem.elem i && robOf f i && rdy ops rem i && rem.erase i == rem') = true) (ho : ops[i]? = some o) (K : Kd D a N l) (hw : Region.wanted o (yielded ops a.tmps) = true) (hd : o.dst = some d) (hN : Nat.blt d N = true) (hr : Rd P S a o v)
    (k : ∀ a', Kd D a' N ((d, v) :: l) → wpTr P O ops S (robOf f) (needOf f) R n rem' a' w) : wpTr P O ops S (robOf f) (needOf f) R (n + 1) rem a w := by
  simp only [Bool.and_eq_true, beq_iff_eq, List.elem_iff] at hc
  obtain ⟨⟨⟨h1, h2⟩, h3⟩, rfl⟩ := hc
  refine .inl ⟨i, h1, h2, h3, o, ho, v, .inl ⟨hw, hr⟩, ?_⟩
  have := K.put (d := o.dst) (by rw [hd]; exact hN) v
  rw [hd] at this ⊢
  exact k _ this
def AllC (p : Nat → Prop) : List Nat → Prop
  | [] => True
  | c :: cs => p c ∧ AllC p cs
theorem allC_mem {p : Nat → Prop} : ∀ {cs : List Nat}, AllC p cs → ∀ c ∈ cs, p c
  | [], _, c, h => by cases h
  | d :: cs, h, c, hc => by
    rcases List.mem_cons.1 hc with rfl | hc
    · exact h.1
    · exact allC_mem h.2 c hc
/-- One of several comes first. -/
theorem R_br (cs : List Nat) (hc : ((rem.all fun i => !robOf f i || !rdy ops rem i) && (rem.filter fun c => !robOf f c && rdy ops rem c) == cs) = true)
    (h : AllC (fun c => wpOp P ops O c (fun a' w' => (needOf f c = true → S w') ∧ wpTr P O ops S (robOf f) (needOf f) R n (rem.erase c) a' w') a w) cs) : wpTr P O ops S (robOf f) (needOf f) R (n + 1) rem a w := by
  simp only [Bool.and_eq_true, beq_iff_eq] at hc
  obtain ⟨h1, rfl⟩ := hc
  refine .inr ⟨fun i hi hr => ?_, fun c hcm hr hrd => allC_mem h c (List.mem_filter.2 ⟨hcm, by simp [hr, hrd]⟩)⟩
  have := List.all_eq_true.1 h1 i hi
  simpa [hr] using this
theorem R_ac (rem' : List Nat) (hc : (rem.erase c == rem') = true) (ho : ops[c]? = some o) (K : Kd D a N l) (hw : Region.wanted o (yielded ops a.tmps) = true) (hd : o.dst = some d) (hN : Nat.blt d N = true) (h : Ac P o a w post)
    (k : ∀ v a' w', post v w' → Kd D a' N ((d, v) :: l) → (needOf f c = true → S w') ∧ wpTr P O ops S (robOf f) (needOf f) R n rem' a' w') : wpOp P ops O c (fun a' w' => (needOf f c = true → S w') ∧ wpTr P O ops S (robOf f) (needOf f) R n (rem.erase c) a' w') a w := by
  obtain rfl : rem.erase c = rem' := by simpa using hc
  unfold wpOp
  simp only [ho, hw, if_true]
  refine .inl (h _ _ fun v w' hp => ?_)
  have := K.put (d := o.dst) (by rw [hd]; exact hN) v
  rw [hd] at this ⊢
  exact k v _ w' hp this
theorem R_a0 (rem' : List Nat) (hc : (rem.erase c == rem') = true) (ho : ops[c]? = some o) (K : Kd D a N l) (hw : Region.wanted o (yielded ops a.tmps) = true) (hd : o.dst = none) (h : Ac P o a w post)
    (k : ∀ v a' w', post v w' → Kd D a' N l → (needOf f c = true → S w') ∧ wpTr P O ops S (robOf f) (needOf f) R n rem' a' w') : wpOp P ops O c (fun a' w' => (needOf f c = true → S w') ∧ wpTr P O ops S (robOf f) (needOf f) R n (rem.erase c) a' w') a w := by
  obtain rfl : rem.erase c = rem' := by simpa using hc
  unfold wpOp
  simp only [ho, hw, if_true]
  refine .inl (h _ _ fun v w' hp => ?_)
  rw [hd]
  exact k v _ w' hp K
theorem R_end (h : R a w) : wpTr P O ops S (robOf f) (needOf f) R 0 [] a w := ⟨rfl, h⟩
end
end Go.Proofs.YtpmnfhifmmfglacDoor

namespace Go.Proofs.YtpmnfhifmmfglacDoor
open Go.RowKit
section
variable {P : Program} {S : World → Prop} {base : Nat} {W w : World} {L : List Ent} {D : List Deferred} {a : Act} {N : Nat} {l : List (Nat × Value)} {o : Oper} {v v' : Value} {x y ix : Operand} {k : IntKind} {m n : Int} {t e t' : TypeId} {g off : Nat} {cs : List Value} {α : Type} {C : Cod α} {xs ys zs : List α} {A B : Option Addr} {c c' : Nat}
/-- A loop of which the rounds are walked one by one. -/
theorem X_rounds {p : Code} {Q : Exit → Act → World → Prop} {w : World} (n : Nat) (h : Code.rounds P p Q n a w) : (Code.loop p).wp P Q a w := wp_loop_rounds n h
theorem X_round {p : Code} {Q : Exit → Act → World → Prop} {w : World} {n : Nat} (h : p.wp P (Exit.then (Code.rounds P p Q n) Q) a w) : Code.rounds P p Q (n + 1) a w := h
end
end Go.Proofs.YtpmnfhifmmfglacDoor

namespace Go.Proofs.YtpmnfhifmmfglacDoor
open Go.RowKit
abbrev I (n : Int) : Value := .int .i64 n
/-- A reading operation's answer, or nothing where its guard bars it. -/
inductive Stp (P : Program) (ops : Array Oper) (S : World → Prop) (D : List Deferred) (N : Nat) (l : List (Nat × Value)) (o : Oper) (v : Value) : Prop where
  | yes (hw : ∀ a, Kd D a N l → Region.wanted o (yielded ops a.tmps) = true) (hr : ∀ a, Kd D a N l → Rd P S a o v)
  | no (hw : ∀ a, Kd D a N l → Region.wanted o (yielded ops a.tmps) = false) (hv : undef = v)
section
variable {P : Program} {base : Nat} {W w : World} {L : List Ent} {S : World → Prop} {D : List Deferred} {a : Act} {N : Nat} {l : List (Nat × Value)} {o : Oper} {v : Value} {post : Value → World → Prop}
  {ops : Array Oper} {Q : Exit → Act → World → Prop} {R : Act → World → Prop} {rest : List Oper} {d : Nat} {f : List Nat}
theorem X_o (K : Kd D a N l) (M : Mem base W w L) (k : ∀ a', Kd D a' N ((d, v) :: l) → wpList P ops Q rest a' w) (hd : o.dst = some d := by exact rfl) (hN : Nat.blt d N = true := by exact rfl)
    (hs : Stp P ops (fun w => Mem base W w L) D N l o v := by
      first
      | exact .no (fun a K => K.no rfl rfl rfl rfl) rfl
      | exact .no (fun a K => K.nou rfl rfl rfl) rfl
      | exact .yes (by first | exact fun a K => want_no rfl | exact fun a K => K.yes rfl rfl rfl) (by
         first
         | exact fun a K => rd_move rfl K rfl
         | exact fun a K => rd_assign rfl K rfl
         | exact fun a K => rd_pickT rfl K rfl rfl
         | exact fun a K => rd_pickF rfl K rfl rfl
         | exact fun a K => rd_nil rfl K rfl
         | exact fun a K => rd_extract rfl K rfl rfl
         | exact fun a K => rd_not rfl K rfl
         | exact fun a K => rd_add rfl K rfl rfl
         | exact fun a K => rd_lss rfl K rfl rfl
         | exact fun a K => rd_sub rfl K rfl rfl
         | exact fun a K => rd_mul rfl K rfl rfl
         | exact fun a K => rd_eql rfl K rfl rfl
         | exact fun a K => rd_neq rfl K rfl rfl
         | exact fun a K => rd_gtr rfl K rfl rfl
         | exact fun a K => rd_leq rfl K rfl rfl
         | exact fun a K => rd_geq rfl K rfl rfl
         | exact fun a K => rd_min rfl K rfl rfl
         | exact fun a K => rd_max rfl K rfl rfl
         | exact fun a K => rd_and rfl K rfl rfl)) : wpList P ops Q (o :: rest) a w := by
  cases hs with
  | yes hw hr => exact X_rd K (hw a K) hd hN (hr a K) M k
  | no hw hv => subst hv; exact X_no K (hw a K) hd hN k
theorem Y_o (M : Mem base W w L) (k : ∀ a', Kd D a' N ((d, v) :: l) → wpList P ops Q rest a' w) (hd : o.dst = some d := by exact rfl) (hN : Nat.blt d N = true := by exact rfl)
    (hs : Stp P ops (fun w => Mem base W w L) D N l o v := by
      first
      | exact .no (fun a K => K.no rfl rfl rfl rfl) rfl
      | exact .no (fun a K => K.nou rfl rfl rfl) rfl
      | exact .yes (by first | exact fun a K => want_no rfl | exact fun a K => K.yes rfl rfl rfl) (by
         first
         | exact fun a K => rd_move rfl K rfl
         | exact fun a K => rd_assign rfl K rfl
         | exact fun a K => rd_pickT rfl K rfl rfl
         | exact fun a K => rd_pickF rfl K rfl rfl
         | exact fun a K => rd_nil rfl K rfl
         | exact fun a K => rd_extract rfl K rfl rfl
         | exact fun a K => rd_not rfl K rfl
         | exact fun a K => rd_add rfl K rfl rfl
         | exact fun a K => rd_lss rfl K rfl rfl
         | exact fun a K => rd_sub rfl K rfl rfl
         | exact fun a K => rd_mul rfl K rfl rfl
         | exact fun a K => rd_eql rfl K rfl rfl
         | exact fun a K => rd_neq rfl K rfl rfl
         | exact fun a K => rd_gtr rfl K rfl rfl
         | exact fun a K => rd_leq rfl K rfl rfl
         | exact fun a K => rd_geq rfl K rfl rfl
         | exact fun a K => rd_min rfl K rfl rfl
         | exact fun a K => rd_max rfl K rfl rfl
         | exact fun a K => rd_and rfl K rfl rfl)) : ∀ a, Kd D a N l → wpList P ops Q (o :: rest) a w := fun a K => X_o K M k hd hN hs
theorem Y_r (hr : ∀ a, Kd D a N l → Rd P (fun w => Mem base W w L) a o v) (M : Mem base W w L) (k : ∀ a', Kd D a' N ((d, v) :: l) → wpList P ops Q rest a' w)
    (hw : ∀ a, Kd D a N l → Region.wanted o (yielded ops a.tmps) = true := by first | exact fun a K => want_no rfl | exact fun a K => K.yes rfl rfl rfl) (hd : o.dst = some d := by exact rfl) (hN : Nat.blt d N = true := by exact rfl) :
    ∀ a, Kd D a N l → wpList P ops Q (o :: rest) a w := fun a K => X_rd K (hw a K) hd hN (hr a K) M k
theorem X_r (K : Kd D a N l) (hr : Rd P (fun w => Mem base W w L) a o v) (M : Mem base W w L) (k : ∀ a', Kd D a' N ((d, v) :: l) → wpList P ops Q rest a' w)
    (hw : ∀ a, Kd D a N l → Region.wanted o (yielded ops a.tmps) = true := by first | exact fun a K => want_no rfl | exact fun a K => K.yes rfl rfl rfl) (hd : o.dst = some d := by exact rfl) (hN : Nat.blt d N = true := by exact rfl) :
    wpList P ops Q (o :: rest) a w := X_rd K (hw a K) hd hN hr M k
theorem X_a (K : Kd D a N l) (h : Ac P o a w post) (k : ∀ v a' w', post v w' → Kd D a' N ((d, v) :: l) → wpList P ops Q rest a' w')
    (hw : ∀ a, Kd D a N l → Region.wanted o (yielded ops a.tmps) = true := by first | exact fun a K => want_no rfl | exact fun a K => K.yes rfl rfl rfl) (hd : o.dst = some d := by exact rfl) (hN : Nat.blt d N = true := by exact rfl) :
    wpList P ops Q (o :: rest) a w := X_ac K (hw a K) hd hN h k
theorem X_b (K : Kd D a N l) (h : Ac P o a w post) (k : ∀ v a' w', post v w' → Kd D a' N l → wpList P ops Q rest a' w')
    (hw : ∀ a, Kd D a N l → Region.wanted o (yielded ops a.tmps) = true := by first | exact fun a K => want_no rfl | exact fun a K => K.yes rfl rfl rfl) (hd : o.dst = none := by exact rfl) :
    wpList P ops Q (o :: rest) a w := X_a0 K (hw a K) hd h k
theorem T_o (K : Kd D a N l) (k : ∀ a', Kd D a' N ((d, v) :: l) → wpTl P ops S R (marked f rest) a' w) (hd : o.dst = some d := by exact rfl) (hN : Nat.blt d N = true := by exact rfl)
    (hs : Stp P ops S D N l o v := by
      first
      | exact .no (fun a K => K.no rfl rfl rfl rfl) rfl
      | exact .no (fun a K => K.nou rfl rfl rfl) rfl
      | exact .yes (by first | exact fun a K => want_no rfl | exact fun a K => K.yes rfl rfl rfl) (by
         first
         | exact fun a K => rd_move rfl K rfl
         | exact fun a K => rd_assign rfl K rfl
         | exact fun a K => rd_pickT rfl K rfl rfl
         | exact fun a K => rd_pickF rfl K rfl rfl
         | exact fun a K => rd_nil rfl K rfl
         | exact fun a K => rd_extract rfl K rfl rfl
         | exact fun a K => rd_not rfl K rfl
         | exact fun a K => rd_add rfl K rfl rfl
         | exact fun a K => rd_lss rfl K rfl rfl
         | exact fun a K => rd_sub rfl K rfl rfl
         | exact fun a K => rd_mul rfl K rfl rfl
         | exact fun a K => rd_eql rfl K rfl rfl
         | exact fun a K => rd_neq rfl K rfl rfl
         | exact fun a K => rd_gtr rfl K rfl rfl
         | exact fun a K => rd_leq rfl K rfl rfl
         | exact fun a K => rd_geq rfl K rfl rfl
         | exact fun a K => rd_min rfl K rfl rfl
         | exact fun a K => rd_max rfl K rfl rfl
         | exact fun a K => rd_and rfl K rfl rfl)) : wpTl P ops S R (marked (0 :: f) (o :: rest)) a w := by
  cases hs with
  | yes hw hr => exact T_rd K (hw a K) hd hN (hr a K) k
  | no hw hv => subst hv; exact T_no K (hw a K) hd hN k
theorem U_o (k : ∀ a', Kd D a' N ((d, v) :: l) → wpTl P ops S R (marked f rest) a' w) (hd : o.dst = some d := by exact rfl) (hN : Nat.blt d N = true := by exact rfl)
    (hs : Stp P ops S D N l o v := by
      first
      | exact .no (fun a K => K.no rfl rfl rfl rfl) rfl
      | exact .no (fun a K => K.nou rfl rfl rfl) rfl
      | exact .yes (by first | exact fun a K => want_no rfl | exact fun a K => K.yes rfl rfl rfl) (by
         first
         | exact fun a K => rd_move rfl K rfl
         | exact fun a K => rd_assign rfl K rfl
         | exact fun a K => rd_pickT rfl K rfl rfl
         | exact fun a K => rd_pickF rfl K rfl rfl
         | exact fun a K => rd_nil rfl K rfl
         | exact fun a K => rd_extract rfl K rfl rfl
         | exact fun a K => rd_not rfl K rfl
         | exact fun a K => rd_add rfl K rfl rfl
         | exact fun a K => rd_lss rfl K rfl rfl
         | exact fun a K => rd_sub rfl K rfl rfl
         | exact fun a K => rd_mul rfl K rfl rfl
         | exact fun a K => rd_eql rfl K rfl rfl
         | exact fun a K => rd_neq rfl K rfl rfl
         | exact fun a K => rd_gtr rfl K rfl rfl
         | exact fun a K => rd_leq rfl K rfl rfl
         | exact fun a K => rd_geq rfl K rfl rfl
         | exact fun a K => rd_min rfl K rfl rfl
         | exact fun a K => rd_max rfl K rfl rfl
         | exact fun a K => rd_and rfl K rfl rfl)) : ∀ a, Kd D a N l → wpTl P ops S R (marked (0 :: f) (o :: rest)) a w := fun a K => T_o K k hd hN hs
theorem U_r (hr : ∀ a, Kd D a N l → Rd P S a o v) (k : ∀ a', Kd D a' N ((d, v) :: l) → wpTl P ops S R (marked f rest) a' w)
    (hw : ∀ a, Kd D a N l → Region.wanted o (yielded ops a.tmps) = true := by first | exact fun a K => want_no rfl | exact fun a K => K.yes rfl rfl rfl) (hd : o.dst = some d := by exact rfl) (hN : Nat.blt d N = true := by exact rfl) :
    ∀ a, Kd D a N l → wpTl P ops S R (marked (0 :: f) (o :: rest)) a w := fun a K => T_rd K (hw a K) hd hN (hr a K) k
theorem T_r (K : Kd D a N l) (hr : Rd P S a o v) (k : ∀ a', Kd D a' N ((d, v) :: l) → wpTl P ops S R (marked f rest) a' w)
    (hw : ∀ a, Kd D a N l → Region.wanted o (yielded ops a.tmps) = true := by first | exact fun a K => want_no rfl | exact fun a K => K.yes rfl rfl rfl) (hd : o.dst = some d := by exact rfl) (hN : Nat.blt d N = true := by exact rfl) :
    wpTl P ops S R (marked (0 :: f) (o :: rest)) a w := T_rd K (hw a K) hd hN hr k
theorem T_a (K : Kd D a N l) (h : Ac P o a w post) (k : ∀ v a' w', post v w' → Kd D a' N ((d, v) :: l) → S w' ∧ wpTl P ops S R (marked f rest) a' w')
    (hw : ∀ a, Kd D a N l → Region.wanted o (yielded ops a.tmps) = true := by first | exact fun a K => want_no rfl | exact fun a K => K.yes rfl rfl rfl) (hd : o.dst = some d := by exact rfl) (hN : Nat.blt d N = true := by exact rfl) :
    wpTl P ops S R (marked (1 :: f) (o :: rest)) a w := T_ac K (hw a K) hd hN h k
theorem T_b (K : Kd D a N l) (h : Ac P o a w post) (k : ∀ v a' w', post v w' → Kd D a' N l → wpTl P ops S R (marked f rest) a' w')
    (hw : ∀ a, Kd D a N l → Region.wanted o (yielded ops a.tmps) = true := by first | exact fun a K => want_no rfl | exact fun a K => K.yes rfl rfl rfl) (hd : o.dst = none := by exact rfl) :
    wpTl P ops S R (marked (2 :: f) (o :: rest)) a w := T_a0z K (hw a K) hd h k
end
end Go.Proofs.YtpmnfhifmmfglacDoor

namespace Go.Proofs.YtpmnfhifmmfglacDoor
open Go.RowKit
theorem bs_size (l : List UInt8) : (bs l).size = l.length := by simp [bs, ByteArray.size]
theorem bs_toList (l : List UInt8) : (bs l).toList = l := ByteArray.toList_mk l
theorem bs_append (l m : List UInt8) : bs l ++ bs m = bs (l ++ m) := by
  apply ByteArray.ext
  simp [bs, ByteArray.data_append]
section
variable {P : Program} {base : Nat} {W w : World} {L : List Ent} {S : World → Prop} {D : List Deferred} {a : Act} {N : Nat} {l : List (Nat × Value)} {o : Oper} {x y ix : Operand} {t t' e : TypeId} {m n p q : Int} {k k' : IntKind}
  {xs ys zs : List UInt8} {A : Option Addr} {c : Nat} {ns : List Int}
theorem rd_lenT (ho : o.op = .call { callee := .builtin .len, args := #[x], argTypes := #[t] }) (h : P.underlying t = some .string) (K : Kd D a N l) (hx : evo l x = some (.string (bs xs))) : Rd P S a o (.int .i64 xs.length) := by
  have := rd_lenS (P := P) (S := S) ho h K hx
  rw [bs_size] at this
  exact this
theorem rd_ixT (ho : o.op = .index t x ix) (ht : P.underlying t = some .string) (K : Kd D a N l) (hx : evo l x = some (.string (bs xs))) (hi : evo l ix = some (.int k n)) {b : UInt8} (he : idx xs n = some b) : Rd P S a o (.int .u8 (b.toNat : Int)) :=
  rd_ixS ho ht K hx hi he
theorem rd_addS (ho : o.op = .binOp .add t x y t') (K : Kd D a N l) (hx : evo l x = some (.string (bs xs))) (hy : evo l y = some (.string (bs ys))) (hz : addS xs ys = some zs) : Rd P S a o (.string (bs zs)) := by
  obtain ⟨rfl, h⟩ := addS_spec hz
  refine rd_bin ho K hx hy fun w => ?_
  have h1 := bs_size xs
  have h2 := bs_size ys
  simp [eqGuard, binOp_string_add, Op.stringOp, bs_append]
  omega
theorem rd_eqlS (ho : o.op = .binOp .eql t x y t') (K : Kd D a N l) (hx : evo l x = some (.string (bs xs))) (hy : evo l y = some (.string (bs ys))) : Rd P S a o (.bool (decide (xs = ys))) :=
  rd_bin ho K hx hy fun w => by
    have e : (xs == ys) = decide (xs = ys) := by rw [Bool.eq_iff_iff]; simp
    rw [Sem.run_bind]; simp [eqGuard, binOp_string_eql, bs_toList, e]
theorem rd_neqS (ho : o.op = .binOp .neq t x y t') (K : Kd D a N l) (hx : evo l x = some (.string (bs xs))) (hy : evo l y = some (.string (bs ys))) : Rd P S a o (.bool (!decide (xs = ys))) :=
  rd_bin ho K hx hy fun w => by
    have e : (xs == ys) = decide (xs = ys) := by rw [Bool.eq_iff_iff]; simp
    rw [Sem.run_bind]; simp [eqGuard, binOp_string_neq, bs_toList, e]
theorem rd_convBS {b : Nat} (ho : o.op = .convert t t' x) (ht : slT P t e 1 b = true) (he : P.underlying e = some (.int .u8)) (hd : P.underlying t' = some .string) (K : Kd D a N l) (hx : evo l x = some (.slice A ns.length c)) (hb : ∀ w, S w → SL w (cI .u8) A ns) : Rd P S a o (.string (bs (toB ns))) := fun w hS => by
  obtain ⟨hu, _⟩ := slT_spec ht
  unfold execOp
  simp only [ho, K.ev hx]
  have key : (convert t t' (.slice A ns.length c)).run P w = .ok (.string (bs (toB ns))) w := by
    by_cases h0 : 0 < ns.length
    · obtain ⟨b, off, rfl, hc⟩ := hb w hS h0
      refine run_convert_bytes_arg w t e hu he b off ns.length c ns rfl (fun i hi => ?_) t' hd
      refine hc i _ ?_
      have := Cod.all_get (cI .u8) ns i 0 ns[i] (.int .u8 ns[i]) (List.getElem?_eq_getElem hi) rfl
      rw [List.getD_eq_getElem?_getD, List.getElem?_eq_getElem hi]
      have h1 : (cI .u8).size = 1 := rfl
      rw [h1, Nat.mul_one, Nat.add_zero] at this
      exact this
    · have hn : ns = [] := List.eq_nil_of_length_eq_zero (by omega)
      subst hn
      cases A with
      | none => exact run_convert_bytes_nil w t e hu he _ _ t' hd
      | some ad =>
        rw [run_convert_bytes_string w t t' e (some ad) _ c hu he hd]
        exact run_bytesToString w ad 0 c [] (run_loadCells_list (P := P) w ad [] (fun j v hj => by simp at hj))
  simp [key]
theorem rd_sliceS {lo hi : Option Operand} (ho : o.op = .slice t x lo hi none) (ht : P.underlying t = some .string) (K : Kd D a N l) (hx : evo l x = some (.string (bs xs)))
    (hlo : (match lo with | some z => evo l z = some (.int k p) | none => p = 0)) (hhi : (match hi with | some z => evo l z = some (.int k' q) | none => q = xs.length)) (hy : sli xs p q = some ys) : Rd P S a o (.string (bs ys)) := fun w _ => by
  obtain ⟨h0, h1, h2, rfl⟩ := sli_spec hy
  have hs : ((bs xs).size : Int) = xs.length := by rw [bs_size]
  have hex : (bs xs).extract p.toNat q.toNat = bs ((xs.take q.toNat).drop p.toNat) := by
    rw [show bs xs = ByteArray.mk xs.toArray from rfl, ByteArray.extract_mk, List.drop_take]; rfl
  have hS : ∀ a b c, (Instr.sliceAt t (.string (bs xs)) a b c).run P w = (Instr.slice t (.string (bs xs)) a b c).run P w := fun a b c => by rw [run_sliceAt_string w t _ a b c ht]
  unfold execOp
  cases lo with
  | none =>
    simp only at hlo; subst hlo
    cases hi with
    | none =>
      simp only at hhi; subst hhi
      have := run_slice_string_all (P := P) w t (bs xs) ht
      rw [bs_size] at this
      rw [Int.toNat_zero, Int.toNat_natCast] at hex
      rw [hex] at this
      simp only [ho, K.ev hx, Sem.run_bind, Option.map, hS, this]
      simp
    | some z =>
      simp only at hhi
      have := run_slice_string_to_if (P := P) w t (bs xs) k' q ht
      rw [if_pos ⟨by omega, by omega⟩] at this
      rw [Int.toNat_zero] at hex
      rw [hex] at this
      simp only [ho, K.ev hx, K.ev hhi, Sem.run_bind, Option.map, hS, this]
      simp
  | some z =>
    simp only at hlo
    cases hi with
    | none =>
      simp only at hhi; subst hhi
      have := run_slice_string_from_if (P := P) w t (bs xs) k p ht
      rw [if_pos ⟨by omega, by omega⟩, bs_size] at this
      rw [Int.toNat_natCast] at hex
      rw [hex] at this
      simp only [ho, K.ev hx, K.ev hlo, Sem.run_bind, Option.map, hS, this]
      simp
    | some z2 =>
      simp only at hhi
      have := run_slice_string (P := P) w t (bs xs) k k' p q ht h0 h1 (by omega)
      rw [hex] at this
      simp only [ho, K.ev hx, K.ev hlo, K.ev hhi, Sem.run_bind, Option.map, hS, this]
      simp
theorem ofB_cells (s : List UInt8) : Lib.strCells (bs s) = (cI .u8).all (ofB s) := by
  show s.map (fun b => Value.int .u8 b.toNat) = _
  induction s with
  | nil => rfl
  | cons x s ih =>
    show _ = (cI .u8).enc (x.toNat : Int) ++ (cI .u8).all (ofB s)
    rw [List.map_cons, ih]; rfl
theorem ofB_len (s : List UInt8) : (ofB s).length = s.length := by simp [ofB]
theorem app_place {i : TypeInfo} {v v' : Value} {n : Nat} {vs : List Value} {w' : World} (s : ByteArray) (ht : P.underlying t = some (.slice e)) (hu : P.underlying t' = some .string) (hi : P.info? e = some i) (hz : i.zero = some (.int .u8 0)) (hsize : i.size = 1) (hby : i.bytes = 1)
    (hown : w.ownsRow 0 e 1 v n vs) (hb : n + s.size ≤ 140737488355328) (ty : TypeId) (hr : (Builtin.append_ #[t, t'] ty #[v, .string s]).run P w = .ok v' w') (h0 : v ≠ .slice none 0 0 ∨ 0 < s.size) : v'.ownBlock = v.ownBlock ∨ v'.ownBlock = some w.heap.size := by
  have hxl : vs.length = n := by simpa using hown.1
  rcases hown.2 with ⟨rfl, rfl⟩ | ⟨g, cap, cur, rfl, hbg, hg, hnc, hcm, hcs, htake⟩
  · have hm : 0 < s.size := by
      rcases h0 with h0 | h0
      · exact absurd rfl h0
      · exact h0
    have := run_append_nil_string (P := P) w t t' ty e i (.int .u8 0) ht hu hi hz s (by omega) (by omega) (by rw [hby]; omega)
    rw [hr] at this
    injection this with h1 _
    right; rw [h1]; rfl
  · by_cases hroom : n + s.size ≤ cap
    · have := Lib.run_append_room_string (P := P) w t t' ty e i ht hu hi hsize g n cap cur hg s hroom (by omega)
      rw [hr] at this
      injection this with h1 _
      left; rw [h1]; rfl
    · have holds : ∀ j u, vs[j]? = some u → w.cell? ((⟨g, 0, none⟩ : Addr).add j) = some u := hown.cells (g := g) rfl
      have := Lib.run_append_grow_string (P := P) w t t' ty e i (.int .u8 0) ht hu hi hz ⟨g, 0, none⟩ n cap vs (by rw [hsize]; simpa using hxl) holds s (by omega) (by omega) (by rw [hby]; exact growslice_fits (by omega) (by omega))
      rw [hr] at this
      injection this with h1 _
      right; rw [h1]; rfl
theorem ac_appS {zs : List Int} (ho : o.op = .call { callee := .builtin .append, args := #[x, y], argTypes := #[t, t'] }) (ht : slT P t e 1 1 = true) (hu : P.underlying t' = some .string) (hz : (P.info? e).bind (·.zero) = some (.int .u8 0)) (K : Kd D a N l)
    (hx : evo l x = some (.slice A ns.length c)) (hy : evo l y = some (.string (bs ys))) (i : Nat) (M : Mem base W w L) (hi : L[i]? = some (.row e 1 A ns.length c ((cI .u8).all ns))) (hlen : app 1 ns (ofB ys) = some zs) :
    Ac P o a w fun v w' => ∃ A' c'', v = .slice A' zs.length c'' ∧ Mem base W w' (L.set i (.row e 1 A' zs.length c'' ((cI .u8).all zs))) := by
  obtain ⟨rfl, hbytes⟩ := app_spec hlen
  rw [ofB_len] at hbytes
  obtain ⟨hsl, inf, hinf, hsz, hby⟩ := slT_spec ht
  have hzz : inf.zero = some (.int .u8 0) := by rw [hinf] at hz; exact hz
  have hown := M.has i _ hi
  have hsize : (bs ys).size = ys.length := bs_size ys
  have hb2 : ns.length + (bs ys).size ≤ 140737488355328 := by rw [hsize]; omega
  obtain ⟨v', w', hr, h2, h3, h4⟩ := Lib.run_append_own_string (P := P) w 0 t t' o.type e inf hsl hu hinf hzz hsz hby (.slice A ns.length c) ns.length ((cI .u8).all ns) hown (bs ys) (by simp only [maxLen]; omega) hb2 (Nat.zero_le _)
  rw [ofB_cells, hsize, ← Cod.all_append] at h2
  by_cases h0 : (Value.slice A ns.length c) = .slice none 0 0 ∧ ys = []
  · obtain ⟨h00, rfl⟩ := h0
    injection h00 with e1 e2 e3
    subst e1 e3
    have hns : ns = [] := List.eq_nil_of_length_eq_zero e2
    subst hns
    have hr2 : (Builtin.append_ #[t, t'] o.type #[.slice none ([] : List Int).length 0, .string (bs [])]).run P w = .ok (.slice none 0 0) w := by
      have hf := Lib.run_firstCells_string (P := P) w 1 (bs [])
      have hm : (bs []).size = 0 := rfl
      rw [hm] at hf
      simp [Builtin.append_, run_underlying hsl, run_underlying hu, sizeOf, typeInfo, hinf, hsz, Builtin.lenOf, hm, hf]
    refine ac_val (v := .slice none 0 0) (w' := w) ?_ ⟨none, 0, rfl, ?_⟩
    · unfold execOp
      simp only [ho, resolve, invoke, builtin, Sem.run_bind, Sem.run_pure, Result.andThen_ok, List.map_toArray, List.map_cons, List.map_nil, K.ev hx, K.ev hy]
      rw [hr2]; rfl
    · have : L.set i (.row e 1 none (([] : List Int) ++ ofB []).length 0 ((cI .u8).all ([] ++ ofB []))) = L := by
        obtain ⟨hlt, he⟩ := List.getElem?_eq_some_iff.1 hi
        exact he ▸ List.set_getElem_self hlt
      rw [this]; exact M
  have hne : (Value.slice A ns.length c) ≠ .slice none 0 0 ∨ 0 < (bs ys).size := by
    by_cases hy0 : ys = []
    · left; exact fun e => h0 ⟨e, hy0⟩
    · right; rw [hsize]; exact List.length_pos_iff.2 hy0
  have hpl := app_place (bs ys) hsl hu hinf hzz hsz hby hown hb2 o.type hr hne
  have hv' : v' ≠ .slice none 0 0 := fun e => by
    obtain ⟨q1, q2⟩ := h4.1 e
    rw [hsize] at q2
    exact h0 ⟨q1, List.eq_nil_of_length_eq_zero q2⟩
  rcases h2.2 with ⟨e1, _⟩ | ⟨g, cap, cur, rfl, _⟩
  · exact absurd e1 hv'
  refine ac_val (v := .slice (some ⟨g, 0, none⟩) (ns.length + ys.length) cap) (w' := w') ?_ ⟨some ⟨g, 0, none⟩, cap, by rw [List.length_append, ofB_len], ?_⟩
  · unfold execOp
    simp only [ho, resolve, invoke, builtin, Sem.run_bind, Sem.run_pure, Result.andThen_ok, List.map_toArray, List.map_cons, List.map_nil, K.ev hx, K.ev hy]
    rw [hr]; rfl
  · have h3' : w.grownBy w' (A.map (·.block)) := by
      cases A with
      | none => exact h3
      | some ad => exact h3
    rw [List.length_append, ofB_len]
    refine M.grown i hi h3' h2 ?_
    rcases hpl with hpl | hpl
    · left
      cases A with
      | none => simp [Value.ownBlock] at hpl
      | some ad => simpa [Value.ownBlock] using hpl.symm
    · right
      simp [Value.ownBlock] at hpl
      omega
end
end Go.Proofs.YtpmnfhifmmfglacDoor

namespace Go.Proofs.YtpmnfhifmmfglacDoor
open Go.RowKit Go.WideMaps
section
variable {P : Program} {base : Nat} {W w : World} {L : List Ent} {S : World → Prop} {D : List Deferred} {a : Act} {N : Nat} {l : List (Nat × Value)} {o : Oper} {x y z : Operand} {t k e T : TypeId} {g n c : Nat} {A : Option Addr}
  {m m' : List (List UInt8 × Int)} {s : List UInt8} {r : Int × Bool} {v : Int}
theorem Mem.swap {e e' : Ent} (M : Mem base W w L) (i : Nat) (hi : L[i]? = some e) (h : Ent.holds w e') (hf : e'.foot = e.foot) : Mem base W w (L.set i e') :=
  M.turn0 i hi (Below.refl _ _) h (fun _ _ _ => rfl) (fun g hg => .inl (hf ▸ hg)) M.oth
theorem Mem.asBld (e : TypeId) (M : Mem base W w (.blk g T [.pointer none, .slice none 0 0] :: L)) : Mem base W w (.row e 1 none ([] : List UInt8).length 0 ((cI .u8).all (ofB ([] : List UInt8))) :: .bld g T none ([] : List UInt8).length 0 :: L) :=
  Mem.nilrow e 1 (cI .u8) (M.swap 0 rfl (show Ent.holds w (.bld g T none 0 0) from ⟨none, .inl rfl, M.has 0 _ rfl⟩) rfl)
theorem Mem.unBld (M : Mem base W w L) (i : Nat) (hi : L[i]? = some (.blk g T [.pointer (some ⟨g, 0, none⟩), .slice A n c])) : Mem base W w (L.set i (.bld g T A n c)) :=
  M.swap i hi (show Ent.holds w (.bld g T A n c) from ⟨_, .inr rfl, M.has i _ hi⟩) rfl
theorem Mem.builder {b : List UInt8} (M : Mem base W w (.bld g T A b.length c :: .row e 1 A b.length c ((cI .u8).all (ofB b)) :: L)) : Lib.IsBuilder T e base g (Lib.byteCells b) w := by
  obtain ⟨p, hp, hb⟩ := M.has 0 _ rfl
  have hrow : w.ownsRow 0 e 1 (.slice A b.length c) b.length ((cI .u8).all (ofB b)) := M.has 1 _ rfl
  rw [← ofB_cells] at hrow
  have hup := M.up 0 _ g rfl rfl
  have hat : Lib.BuilderAt T e base g (.pointer p) (Lib.byteCells b) w := by
    refine ⟨hup, .slice A b.length c, hb, ?_, ?_⟩
    · rw [Lib.byteCells_length]
      obtain ⟨h1, h2⟩ := hrow
      refine ⟨h1, ?_⟩
      rcases h2 with h2 | ⟨g', cap, cur, q1, q2, q3⟩
      · exact .inl h2
      · refine .inr ⟨g', cap, cur, q1, ?_, q3⟩
        injection q1 with q1 _ _
        exact M.up 1 _ g' rfl (by simp [Ent.foot, q1])
    · intro h
      cases A with
      | none => simp [Value.ownBlock] at h
      | some ad =>
        have h' : ad.block = g := by simpa [Value.ownBlock] using h
        have := M.one 0 1 _ _ g rfl rfl rfl (by simp [Ent.foot, h'])
        omega
  rcases hp with rfl | rfl
  · exact .inl hat
  · exact .inr hat
theorem rd_ixP {α : Type} {C : Cod α} {xs : List α} {el : α} {b s' : Nat} {i : Int} {kk : IntKind} {w' : World} (ho : o.op = .indexAddr t x y) (ht : slT P t e s' b = true) (K : Kd D a N l) (hx : evo l x = some (.slice A xs.length c)) (hi : evo l y = some (.int kk i)) (hb : SL w' C A xs) (he : idx xs i = some el) : Rd P S a o (.pointer (some ((adr A).add (i.toNat * s')))) := fun w hS => by
  obtain ⟨hu, inf, hinf, hs, _⟩ := slT_spec ht
  obtain ⟨h0, hlt, hel⟩ := idx_spec he
  obtain ⟨b', o', hA, hc⟩ := hb (by omega)
  have h1 : i < xs.length := by omega
  unfold execOp
  subst hA
  simp [ho, K.ev hx, K.ev hi, Instr.indexAt, asIntOf, run_underlying hu, sizeOf, typeInfo, hinf, hs, h0, h1, adr]
theorem R_rdA {O : Exit → Act → World → Prop} {ops : Array Oper} {f : List Nat} {d cc n' : Nat} {u : Value} {R : Act → World → Prop} {rem : List Nat} (rem' : List Nat) (hc : (rem.erase cc == rem') = true) (ho : ops[cc]? = some o) (K : Kd D a N l) (hw : Region.wanted o (yielded ops a.tmps) = true) (hd : o.dst = some d) (hN : Nat.blt d N = true)
    (hr : Rd P (fun w => Mem base W w L) a o u) (M : Mem base W w L) (k : ∀ a', Kd D a' N ((d, u) :: l) → (needOf f cc = true → S w) ∧ wpTr P O ops S (robOf f) (needOf f) R n' rem' a' w) :
    wpOp P ops O cc (fun a' w' => (needOf f cc = true → S w') ∧ wpTr P O ops S (robOf f) (needOf f) R n' (rem.erase cc) a' w') a w :=
  R_ac rem' hc ho K hw hd hN (post := fun v' w' => v' = u ∧ w' = w) (ac_val (hr w M) ⟨rfl, rfl⟩) fun v' a' w' hp K' => by obtain ⟨rfl, rfl⟩ := hp; exact k a' K'
/-- A loop that is left by a return alone. -/
theorem X_lpR {Q : Exit → Act → World → Prop} {St Rt : Type} {Rel : St → Act → World → Prop} {kk : St → Option Rt} {lf : (St → Option Rt) → Nat → St → Option Rt} {r : Rt} {p : Code} {n : Nat} {st : St}
    (h : lf kk n st = some r) (hz : ∀ kk st, lf kk 0 st = none) (h0 : Rel st a w) (hk : ∀ st a w, Rel st a w → kk st = some r → Q .ret a w)
    (round : ∀ (kk : St → Option Rt) n st a w, (∀ st a w, Rel st a w → kk st = some r → Q .ret a w) → Rel st a w → lf kk (n + 1) st = some r → p.wp P (Exit.then (fun a w => ∃ st, Rel st a w ∧ lf kk n st = some r) Q) a w) : (Code.loop p).wp P Q a w := by
  refine X_loop (I := fun n a w => ∃ st, Rel st a w ∧ lf kk n st = some r) n ⟨st, h0, h⟩ (fun a w ⟨st, _, h⟩ => by rw [hz] at h; cases h) ?_
  rintro n a w ⟨st, hr, h⟩
  exact round kk n st a w hk hr h
theorem inS (i : Nat) (h : L[i]? = some (.smp P k e g m)) : ∀ w, Mem base W w L → SMap P k e w g m := fun _ M => M.has i _ h
theorem SMap.new (w : World) : SMap P k e (w.alloc (.map #[] 0)) w.heap.size [] := ⟨.map [], World.ownsMap_made w P k _, fun s => ⟨rfl, fun z => rfl⟩⟩
theorem ac_makeMap (ho : o.op = .makeMap t none) (k e : TypeId) (M : Mem base W w L) : Ac P o a w fun v w' => ∃ g, v = .map (some g) ∧ Mem base W w' (.smp P k e g [] :: L) := by
  refine ac_val (v := .map (some w.heap.size)) (w' := w.alloc (.map #[] 0)) ?_ ⟨_, rfl, ?_⟩
  · unfold execOp
    simp [ho, run_makeMap_plain]
  · refine (M.below ((Below.refl _ _).alloc (Nat.le_refl _) _)).cons (show Ent.holds _ (.smp P k e w.heap.size []) from SMap.new w) fun g hg => ?_
    simp [Ent.foot] at hg
    subst hg
    exact ⟨M.sz, fun i e' h he => by have := M.feet i e' _ h he; omega⟩
theorem rd_look (ho : o.op = .lookup t x y true) (ht : P.underlying t = some (.map k e)) (hk : P.underlying k = some .string) (he : P.underlying e = some (.int .i64)) (hz : (P.info? e).bind (·.zero) = some (.int .i64 0)) (K : Kd D a N l)
    (hx : evo l x = some (.map (some g))) (hy : evo l y = some (.string (bs s))) (hM : ∀ w, S w → SMap P k e w g m) (hl : mlook m s = some r) : Rd P S a o (.tuple #[.int .i64 r.1, .bool r.2]) := fun w hS => by
  obtain ⟨rfl, hs⟩ := mlook_spec hl
  obtain ⟨D, hown, hD⟩ := hM w hS
  have hz : ∀ w, (zeroValue e).run P w = .ok (.int .i64 0) w := fun w => by
    simp only [Option.bind_eq_some_iff] at hz
    obtain ⟨inf, hinf, hz0⟩ := hz
    simp [zeroValue, typeInfo, hinf, hz0]
  have hkey : keyOf P k (.string (bs s)) = some (.string s) := keyOf_string_mk hk (by rw [bs_size]; unfold maxLen; omega)
  obtain ⟨v, ps, hrun, hv⟩ := hown.look_ok (Maps.string_keyed hk) ht (hz w) (plainElem_int he (by decide)) hkey
  obtain ⟨c, rfl, hc, _⟩ := plainElem_int_inv he hv
  obtain ⟨h1, h2⟩ := hD s
  simp only [Prod.mk.injEq] at hc
  have hcc : c = (mget m s).getD 0 := by
    have h3 := h2 (.lit (.int .i64 0))
    rw [hc.1] at h3
    cases hm : mget m s with
    | none => rw [hm] at h3; simp at h3; simp [h3]
    | some q => rw [hm] at h3; simp at h3; simp [h3]
  subst hcc
  rw [h1] at hrun
  unfold execOp
  simp [ho, K.ev hx, K.ev hy, hrun]
theorem ac_mapSet (ho : o.op = .mapUpdate t x y z) (ht : P.underlying t = some (.map k e)) (hk : P.underlying k = some .string) (he : P.underlying e = some (.int .i64)) (K : Kd D a N l)
    (hx : evo l x = some (.map (some g))) (hy : evo l y = some (.string (bs s))) (hv : evo l z = some (.int .i64 v)) (i : Nat) (M : Mem W.heap.size W w L) (hi : L[i]? = some (.smp P k e g m)) (hp : mput m s v = some m') :
    Ac P o a w fun _ w' => Mem W.heap.size W w' (L.set i (.smp P k e g m')) := by
  obtain ⟨rfl, h1, h2, h3, h4⟩ := mput_spec hp
  obtain ⟨D, hown, hD⟩ := M.has i _ hi
  have hkey : keyOf P k (.string (bs s)) = some (.string s) := keyOf_string_mk hk (by rw [bs_size]; unfold maxLen; omega)
  obtain ⟨w', hrun, hown', hg⟩ := hown.update (Maps.string_keyed hk) ht (by unfold maxLen; omega) hkey (plainElem_int he (WalkArith.wf_i64 ⟨h3, h4⟩))
  refine ac_skip (w' := w') ?_ (M.turnS rfl i hi ((Below.refl _ w).grown hg M.sz fun k hk => M.up i _ k hi (by cases hk; rfl)) (show Ent.holds w' (.smp P k e g ((s, v) :: m)) from ⟨_, hown', fun s' => ?_⟩) (fun j hj hne => hg.block j hj fun h => hne (by cases h; rfl)) (fun g' hg' => .inl hg'))
  · unfold execOp
    simp [ho, K.ev hx, K.ev hy, K.ev hv, hrun]
  · have hkl : WideAt.IsKeyLit (.string s) := trivial
    by_cases hs : s = s'
    · subst hs
      refine ⟨?_, fun z => ?_⟩
      · rw [Maps.has_put_same hown.isMap hkl]; simp [mget]
      · rw [Maps.atKey_put_same hown.isMap hkl]; simp [mget]
    · have hne : (Lit.string s' : Lit) ≠ .string s := fun h => hs (by injection h with h; exact h.symm)
      obtain ⟨q1, q2⟩ := hD s'
      refine ⟨?_, fun z => ?_⟩
      · rw [Maps.has_put_other hne, q1]; simp [mget, hs]
      · rw [Maps.atKey_put_other hne, q2]; simp [mget, hs]
end
end Go.Proofs.YtpmnfhifmmfglacDoor

namespace Go.Proofs.YtpmnfhifmmfglacDoor
open Go.RowKit
theorem z2 : zeroT Tryd.prog 2 = some [.int .i64 0] := by kernel_rfl
theorem sc3 : scT Tryd.prog 3 = true := by kernel_rfl
theorem z3 : zeroT Tryd.prog 3 = some [.int .i64 0] := by kernel_rfl
theorem zi3 : (Tryd.prog.info? 3).bind (·.zero) = some (.int .i64 0) := by kernel_rfl
theorem ik3 : Tryd.prog.underlying 3 = some (.int .i64) := by kernel_rfl
theorem sz3 : (Tryd.prog.info? 3).map (·.size) = some 1 := by kernel_rfl
theorem z4 : zeroT Tryd.prog 4 = some [.bool false] := by kernel_rfl
theorem sc5 : scT Tryd.prog 5 = true := by kernel_rfl
theorem z5 : zeroT Tryd.prog 5 = some [.int .u8 0] := by kernel_rfl
theorem ik5 : Tryd.prog.underlying 5 = some (.int .u8) := by kernel_rfl
theorem zu5 : (Tryd.prog.info? 5).bind (·.zero) = some (.int .u8 0) := by kernel_rfl
theorem sz5 : (Tryd.prog.info? 5).map (·.size) = some 1 := by kernel_rfl
theorem sc9 : scT Tryd.prog 9 = true := by kernel_rfl
theorem z9 : zeroT Tryd.prog 9 = some [.string (bs ([] : List UInt8))] := by kernel_rfl
theorem st9 : Tryd.prog.underlying 9 = some .string := by kernel_rfl
theorem sz9 : (Tryd.prog.info? 9).map (·.size) = some 1 := by kernel_rfl
theorem z20 : zeroT Tryd.prog 20 = some [.nilIface] := by kernel_rfl
theorem z21 : zeroT Tryd.prog 21 = some [.int .i32 0] := by kernel_rfl
theorem sc22 : scT Tryd.prog 22 = true := by kernel_rfl
theorem sl22 : slT Tryd.prog 22 3 1 8 = true := by kernel_rfl
theorem un22 : ∃ e, Tryd.prog.underlying 22 = some (.slice e) := ⟨_, (slT_spec sl22).1⟩
theorem sl31 : slT Tryd.prog 31 9 1 16 = true := by kernel_rfl
theorem un31 : ∃ e, Tryd.prog.underlying 31 = some (.slice e) := ⟨_, (slT_spec sl31).1⟩
theorem z37 : zeroT Tryd.prog 37 = some [.int .i64 0, .int .i64 0, .slice none 0 0] := by kernel_rfl
theorem ty38 : aggT Tryd.prog 38 3 = true := by kernel_rfl
theorem z38 : zeroT Tryd.prog 38 = some [.int .i64 0, .int .i64 0, .slice none 0 0] := by kernel_rfl
theorem fld38_0 : fldT Tryd.prog 38 0 = some 0 := by kernel_rfl
theorem fld38_1 : fldT Tryd.prog 38 1 = some 1 := by kernel_rfl
theorem fld38_2 : fldT Tryd.prog 38 2 = some 2 := by kernel_rfl
theorem sc52 : scT Tryd.prog 52 = true := by kernel_rfl
theorem sl52 : slT Tryd.prog 52 5 1 1 = true := by kernel_rfl
theorem un52 : ∃ e, Tryd.prog.underlying 52 = some (.slice e) := ⟨_, (slT_spec sl52).1⟩
theorem mp64 : Tryd.prog.underlying 64 = some (.map 9 3) := by kernel_rfl
theorem z70 : zeroT Tryd.prog 70 = some [.nilFunc] := by kernel_rfl
theorem z72 : zeroT Tryd.prog 72 = some [.nilFunc] := by kernel_rfl
theorem ik74 : Tryd.prog.underlying 74 = some (.int .u16) := by kernel_rfl
theorem z75 : zeroT Tryd.prog 75 = some [.nilFunc] := by kernel_rfl
theorem ik76 : Tryd.prog.underlying 76 = some (.int .u64) := by kernel_rfl
theorem ar91 : Tryd.prog.underlying 91 = some (.array 8 3) := by kernel_rfl
theorem z116 : zeroT Tryd.prog 116 = some [.nilFunc] := by kernel_rfl
theorem z119 : zeroT Tryd.prog 119 = some [.int .u8 0, .int .u8 0] := by kernel_rfl
theorem z124 : zeroT Tryd.prog 124 = some [] := by kernel_rfl
theorem z127 : zeroT Tryd.prog 127 = some [.nilFunc] := by kernel_rfl
theorem fok11 : FnOK Tryd.prog 11 = true := by kernel_rfl
theorem fok14 : FnOK Tryd.prog 14 = true := by kernel_rfl
theorem fok15 : FnOK Tryd.prog 15 = true := by kernel_rfl
theorem fok18 : FnOK Tryd.prog 18 = true := by kernel_rfl
theorem fok19 : FnOK Tryd.prog 19 = true := by kernel_rfl
theorem fok20 : FnOK Tryd.prog 20 = true := by kernel_rfl
theorem fok21 : FnOK Tryd.prog 21 = true := by kernel_rfl
theorem fok22 : FnOK Tryd.prog 22 = true := by kernel_rfl
theorem fok24 : FnOK Tryd.prog 24 = true := by kernel_rfl
theorem fok26 : FnOK Tryd.prog 26 = true := by kernel_rfl
theorem fok27 : FnOK Tryd.prog 27 = true := by kernel_rfl
theorem fok28 : FnOK Tryd.prog 28 = true := by kernel_rfl
theorem fok32 : FnOK Tryd.prog 32 = true := by kernel_rfl
theorem fok33 : FnOK Tryd.prog 33 = true := by kernel_rfl
theorem fok34 : FnOK Tryd.prog 34 = true := by kernel_rfl
theorem fok37 : FnOK Tryd.prog 37 = true := by kernel_rfl
theorem fok38 : FnOK Tryd.prog 38 = true := by kernel_rfl
theorem fok39 : FnOK Tryd.prog 39 = true := by kernel_rfl
theorem fok40 : FnOK Tryd.prog 40 = true := by kernel_rfl
theorem fok41 : FnOK Tryd.prog 41 = true := by kernel_rfl
theorem fok42 : FnOK Tryd.prog 42 = true := by kernel_rfl
theorem fok43 : FnOK Tryd.prog 43 = true := by kernel_rfl
theorem fok44 : FnOK Tryd.prog 44 = true := by kernel_rfl
theorem fok45 : FnOK Tryd.prog 45 = true := by kernel_rfl
theorem fok46 : FnOK Tryd.prog 46 = true := by kernel_rfl
theorem fok47 : FnOK Tryd.prog 47 = true := by kernel_rfl
theorem fok48 : FnOK Tryd.prog 48 = true := by kernel_rfl
theorem fok53 : FnOK Tryd.prog 53 = true := by kernel_rfl
theorem fok54 : FnOK Tryd.prog 54 = true := by kernel_rfl
theorem fok55 : FnOK Tryd.prog 55 = true := by kernel_rfl
theorem fok56 : FnOK Tryd.prog 56 = true := by kernel_rfl
theorem fok57 : FnOK Tryd.prog 57 = true := by kernel_rfl
theorem fok60 : FnOK Tryd.prog 60 = true := by kernel_rfl
theorem fok62 : FnOK Tryd.prog 62 = true := by kernel_rfl
theorem fok64 : FnOK Tryd.prog 64 = true := by kernel_rfl
theorem fok65 : FnOK Tryd.prog 65 = true := by kernel_rfl
theorem fok66 : FnOK Tryd.prog 66 = true := by kernel_rfl
theorem fok68 : FnOK Tryd.prog 68 = true := by kernel_rfl
theorem fok72 : FnOK Tryd.prog 72 = true := by kernel_rfl
theorem fok73 : FnOK Tryd.prog 73 = true := by kernel_rfl
theorem fok74 : FnOK Tryd.prog 74 = true := by kernel_rfl
end Go.Proofs.YtpmnfhifmmfglacDoor

namespace Go.Proofs.YtpmnfhifmmfglacDoor
open Go.Shelf Go.RowKit
def lays160_ren : Go.Shelf.Ren := ⟨fun | 160 => 72 | 232 => 78 | 231 => 77 | 227 => 79 | 234 => 81 | 233 => 80 | 236 => 83 | 235 => 82 | 228 => 91 | 271 => 94 | 151 => 93 | 197 => 92 | 120 => 100 | 152 => 99 | 260 => 98 | 137 => 101 | 119 => 102 | 224 => 89 | 225 => 88 | 217 => 87 | 266 => 96 | n => n, fun | 9 => 9 | 4 => 4 | 3 => 3 | 5 => 5 | 117 => 105 | 116 => 104 | 0 => 0 | 124 => 108 | 21 => 21 | 105 => 111 | 46 => 76 | 119 => 117 | 139 => 120 | 138 => 119 | n => n, fun | 3 => 1 | 4 => 2 | n => n⟩
theorem lays160 : Go.Proofs.Lays.n160 Tryd.prog lays160_ren := {
  mixed := by kernel_rfl
  f119 := Tryd.func102.trans (congrArg some (by kernel_rfl))
  f120 := Tryd.func100.trans (congrArg some (by kernel_rfl))
  f137 := Tryd.func101.trans (congrArg some (by kernel_rfl))
  f151 := Tryd.func93.trans (congrArg some (by kernel_rfl))
  f152 := Tryd.func99.trans (congrArg some (by kernel_rfl))
  f160 := Tryd.func72.trans (congrArg some (by kernel_rfl))
  f197 := Tryd.func92.trans (congrArg some (by kernel_rfl))
  f217 := Tryd.func87.trans (congrArg some (by kernel_rfl))
  f224 := Tryd.func89.trans (congrArg some (by kernel_rfl))
  f225 := Tryd.func88.trans (congrArg some (by kernel_rfl))
  f227 := Tryd.func79.trans (congrArg some (by kernel_rfl))
  f228 := Tryd.func91.trans (congrArg some (by kernel_rfl))
  f231 := Tryd.func77.trans (congrArg some (by kernel_rfl))
  f232 := Tryd.func78.trans (congrArg some (by kernel_rfl))
  f233 := Tryd.func80.trans (congrArg some (by kernel_rfl))
  f234 := Tryd.func81.trans (congrArg some (by kernel_rfl))
  f235 := Tryd.func82.trans (congrArg some (by kernel_rfl))
  f236 := Tryd.func83.trans (congrArg some (by kernel_rfl))
  f260 := Tryd.func98.trans (congrArg some (by kernel_rfl))
  f266 := Tryd.func96.trans (congrArg some (by kernel_rfl))
  f271 := Tryd.func94.trans (congrArg some (by kernel_rfl))
  t0 := Tryd.underlying0
  a0 := Tryd.isAgg0
  z0 := Tryd.sizeOf0
  v0 := Tryd.zeroValue0
  t3 := Tryd.underlying3
  a3 := Tryd.isAgg3
  z3 := Tryd.sizeOf3
  v3 := Tryd.zeroValue3
  t4 := Tryd.underlying4
  a4 := Tryd.isAgg4
  z4 := Tryd.sizeOf4
  v4 := Tryd.zeroValue4
  t5 := Tryd.underlying5
  a5 := Tryd.isAgg5
  z5 := Tryd.sizeOf5
  v5 := Tryd.zeroValue5
  t9 := Tryd.underlying9
  a9 := Tryd.isAgg9
  z9 := Tryd.sizeOf9
  v9 := Tryd.zeroValue9
  t21 := Tryd.underlying21
  a21 := Tryd.isAgg21
  z21 := Tryd.sizeOf21
  v21 := Tryd.zeroValue21
  t46 := Tryd.underlying76
  a46 := Tryd.isAgg76
  z46 := Tryd.sizeOf76
  v46 := Tryd.zeroValue76
  t105 := Tryd.underlying111
  a105 := Tryd.isAgg111
  z105 := Tryd.sizeOf111
  v105 := Tryd.zeroValue111
  t116 := Tryd.underlying104
  a116 := Tryd.isAgg104
  z116 := Tryd.sizeOf104
  t117 := Tryd.underlying105
  a117 := Tryd.isAgg105
  z117 := Tryd.sizeOf105
  v117 := Tryd.zeroValue105
  t119 := Tryd.underlying117
  a119 := Tryd.isAgg117
  z119 := Tryd.sizeOf117
  t124 := Tryd.underlying108
  a124 := Tryd.isAgg108
  z124 := Tryd.sizeOf108
  v124 := Tryd.zeroValue108
  t138 := Tryd.underlying119
  a138 := Tryd.isAgg119
  z138 := Tryd.sizeOf119
  v138 := Tryd.zeroValue119
  t139 := Tryd.underlying120
  a139 := Tryd.isAgg120
  z139 := Tryd.sizeOf120
  v139 := Tryd.zeroValue120
  g3 := by kernel_rfl
  g4 := by kernel_rfl }
def lays138_ren : Go.Shelf.Ren := ⟨fun | 138 => 73 | 195 => 84 | 218 => 85 | 143 => 70 | 219 => 76 | 217 => 87 | 225 => 88 | 224 => 89 | 267 => 90 | 266 => 96 | 314 => 97 | n => n, fun | 9 => 9 | 3 => 3 | 4 => 4 | 5 => 5 | 0 => 0 | 46 => 76 | 146 => 114 | 51 => 93 | n => n, fun | 1 => 0 | n => n⟩
theorem lays138 : Go.Proofs.Lays.n138 Tryd.prog lays138_ren := {
  mixed := by kernel_rfl
  f138 := Tryd.func73.trans (congrArg some (by kernel_rfl))
  f143 := Tryd.func70.trans (congrArg some (by kernel_rfl))
  f195 := Tryd.func84.trans (congrArg some (by kernel_rfl))
  f217 := Tryd.func87.trans (congrArg some (by kernel_rfl))
  f218 := Tryd.func85.trans (congrArg some (by kernel_rfl))
  f219 := Tryd.func76.trans (congrArg some (by kernel_rfl))
  f224 := Tryd.func89.trans (congrArg some (by kernel_rfl))
  f225 := Tryd.func88.trans (congrArg some (by kernel_rfl))
  f266 := Tryd.func96.trans (congrArg some (by kernel_rfl))
  f267 := Tryd.func90.trans (congrArg some (by kernel_rfl))
  f314 := Tryd.func97.trans (congrArg some (by kernel_rfl))
  t0 := Tryd.underlying0
  a0 := Tryd.isAgg0
  z0 := Tryd.sizeOf0
  v0 := Tryd.zeroValue0
  t3 := Tryd.underlying3
  a3 := Tryd.isAgg3
  z3 := Tryd.sizeOf3
  v3 := Tryd.zeroValue3
  t4 := Tryd.underlying4
  a4 := Tryd.isAgg4
  z4 := Tryd.sizeOf4
  v4 := Tryd.zeroValue4
  t5 := Tryd.underlying5
  a5 := Tryd.isAgg5
  z5 := Tryd.sizeOf5
  v5 := Tryd.zeroValue5
  t9 := Tryd.underlying9
  a9 := Tryd.isAgg9
  z9 := Tryd.sizeOf9
  v9 := Tryd.zeroValue9
  t46 := Tryd.underlying76
  a46 := Tryd.isAgg76
  z46 := Tryd.sizeOf76
  v46 := Tryd.zeroValue76
  t51 := Tryd.underlying93
  a51 := Tryd.isAgg93
  z51 := Tryd.sizeOf93
  v51 := Tryd.zeroValue93
  t146 := Tryd.underlying114
  a146 := Tryd.isAgg114
  z146 := Tryd.sizeOf114
  v146 := Tryd.zeroValue114
  g1 := by kernel_rfl }
def lays169_ren : Go.Shelf.Ren := ⟨fun | 169 => 28 | n => n, fun | 70 => 51 | 9 => 9 | 0 => 0 | 72 => 54 | 37 => 52 | 127 => 87 | 3 => 3 | 5 => 5 | n => n, fun | n => n⟩
theorem lays169 : Go.Proofs.Lays.n169 Tryd.prog lays169_ren := {
  mixed := by kernel_rfl
  f169 := Tryd.func28.trans (congrArg some (by kernel_rfl))
  t0 := Tryd.underlying0
  a0 := Tryd.isAgg0
  z0 := Tryd.sizeOf0
  v0 := Tryd.zeroValue0
  t3 := Tryd.underlying3
  a3 := Tryd.isAgg3
  z3 := Tryd.sizeOf3
  v3 := Tryd.zeroValue3
  t9 := Tryd.underlying9
  a9 := Tryd.isAgg9
  z9 := Tryd.sizeOf9
  v9 := Tryd.zeroValue9
  t37 := Tryd.underlying52
  a37 := Tryd.isAgg52
  z37 := Tryd.sizeOf52
  v37 := Tryd.zeroValue52
  t70 := Tryd.underlying51
  a70 := Tryd.isAgg51
  z70 := Tryd.sizeOf51
  v70 := Tryd.zeroValue51
  t72 := Tryd.underlying54
  a72 := Tryd.isAgg54
  z72 := Tryd.sizeOf54
  v72 := Tryd.zeroValue54
  t127 := Tryd.underlying87
  a127 := Tryd.isAgg87
  z127 := Tryd.sizeOf87
  v127 := Tryd.zeroValue87 }
def lays144_ren : Go.Shelf.Ren := ⟨fun | 144 => 57 | 143 => 70 | 219 => 76 | 217 => 87 | 225 => 88 | 224 => 89 | 267 => 90 | 266 => 96 | 314 => 97 | n => n, fun | 9 => 9 | 4 => 4 | 3 => 3 | 5 => 5 | 46 => 76 | 146 => 114 | 51 => 93 | n => n, fun | 1 => 0 | n => n⟩
theorem lays144 : Go.Proofs.Lays.n144 Tryd.prog lays144_ren := {
  mixed := by kernel_rfl
  f143 := Tryd.func70.trans (congrArg some (by kernel_rfl))
  f144 := Tryd.func57.trans (congrArg some (by kernel_rfl))
  f217 := Tryd.func87.trans (congrArg some (by kernel_rfl))
  f219 := Tryd.func76.trans (congrArg some (by kernel_rfl))
  f224 := Tryd.func89.trans (congrArg some (by kernel_rfl))
  f225 := Tryd.func88.trans (congrArg some (by kernel_rfl))
  f266 := Tryd.func96.trans (congrArg some (by kernel_rfl))
  f267 := Tryd.func90.trans (congrArg some (by kernel_rfl))
  f314 := Tryd.func97.trans (congrArg some (by kernel_rfl))
  t3 := Tryd.underlying3
  a3 := Tryd.isAgg3
  z3 := Tryd.sizeOf3
  v3 := Tryd.zeroValue3
  t4 := Tryd.underlying4
  a4 := Tryd.isAgg4
  z4 := Tryd.sizeOf4
  v4 := Tryd.zeroValue4
  t5 := Tryd.underlying5
  a5 := Tryd.isAgg5
  z5 := Tryd.sizeOf5
  v5 := Tryd.zeroValue5
  t9 := Tryd.underlying9
  a9 := Tryd.isAgg9
  z9 := Tryd.sizeOf9
  v9 := Tryd.zeroValue9
  t46 := Tryd.underlying76
  a46 := Tryd.isAgg76
  z46 := Tryd.sizeOf76
  v46 := Tryd.zeroValue76
  t51 := Tryd.underlying93
  a51 := Tryd.isAgg93
  z51 := Tryd.sizeOf93
  v51 := Tryd.zeroValue93
  t146 := Tryd.underlying114
  a146 := Tryd.isAgg114
  z146 := Tryd.sizeOf114
  v146 := Tryd.zeroValue114
  g1 := by kernel_rfl }
def lays166_ren : Go.Shelf.Ren := ⟨fun | 166 => 27 | 240 => 60 | 276 => 71 | 169 => 28 | n => n, fun | 0 => 0 | 3 => 3 | 4 => 4 | 5 => 5 | 9 => 9 | 20 => 20 | 37 => 52 | 70 => 51 | 72 => 54 | 75 => 56 | 80 => 59 | 164 => 97 | 127 => 87 | n => n, fun | n => n⟩
theorem lays166 : Go.Proofs.Lays.n166 Tryd.prog lays166_ren := {
  mixed := by kernel_rfl
  f166 := Tryd.func27.trans (congrArg some (by kernel_rfl))
  f240 := Tryd.func60.trans (congrArg some (by kernel_rfl))
  f276 := Tryd.func71.trans (congrArg some (by kernel_rfl))
  t0 := Tryd.underlying0
  a0 := Tryd.isAgg0
  z0 := Tryd.sizeOf0
  v0 := Tryd.zeroValue0
  t3 := Tryd.underlying3
  a3 := Tryd.isAgg3
  z3 := Tryd.sizeOf3
  v3 := Tryd.zeroValue3
  t4 := Tryd.underlying4
  a4 := Tryd.isAgg4
  z4 := Tryd.sizeOf4
  v4 := Tryd.zeroValue4
  t9 := Tryd.underlying9
  a9 := Tryd.isAgg9
  z9 := Tryd.sizeOf9
  v9 := Tryd.zeroValue9
  t20 := Tryd.underlying20
  a20 := Tryd.isAgg20
  z20 := Tryd.sizeOf20
  v20 := Tryd.zeroValue20
  t37 := Tryd.underlying52
  a37 := Tryd.isAgg52
  z37 := Tryd.sizeOf52
  v37 := Tryd.zeroValue52
  t70 := Tryd.underlying51
  a70 := Tryd.isAgg51
  z70 := Tryd.sizeOf51
  v70 := Tryd.zeroValue51
  t72 := Tryd.underlying54
  a72 := Tryd.isAgg54
  z72 := Tryd.sizeOf54
  v72 := Tryd.zeroValue54
  t75 := Tryd.underlying56
  a75 := Tryd.isAgg56
  z75 := Tryd.sizeOf56
  v75 := Tryd.zeroValue56
  t164 := Tryd.underlying97
  a164 := Tryd.isAgg97
  z164 := Tryd.sizeOf97
  v164 := Tryd.zeroValue97 }
theorem Builder_Extra_166 : Builder.Extra Tryd.prog lays166_ren where
  sizeBuilder := by kernel_rfl
  liesBuilder := by kernel_rfl
  t5 := Tryd.underlying5
  a5 := Tryd.isAgg5
  z5 := Tryd.sizeOf5
  v5 := Tryd.zeroValue5
  infoByte := by kernel_rfl
  cellsByte := by kernel_rfl
  sizeByte := by kernel_rfl
  neB5 := by decide
theorem Builder_Extra_169 : Builder.Extra Tryd.prog lays169_ren where
  sizeBuilder := by kernel_rfl
  liesBuilder := by kernel_rfl
  t5 := Tryd.underlying5
  a5 := Tryd.isAgg5
  z5 := Tryd.sizeOf5
  v5 := Tryd.zeroValue5
  infoByte := by kernel_rfl
  cellsByte := by kernel_rfl
  sizeByte := by kernel_rfl
  neB5 := by decide
theorem Builder_String (B b : Nat) (l : List UInt8) (w : World) (h : Lib.IsBuilder 54 5 B b (Lib.byteCells l) w) (hBw : B ≤ w.heap.size) :
    Calls Tryd.prog 28 #[.pointer (some ⟨b, 0, none⟩)] w fun e w' => e = .returned (.string ⟨l.toArray⟩) ∧ Below B w w' := Any.Builder_String_any lays169 Builder_Extra_169 B b l w h hBw
end Go.Proofs.YtpmnfhifmmfglacDoor

namespace Go.Proofs.YtpmnfhifmmfglacDoor
open Go.RowKit Go.Shelf
theorem W_strings_Trim (N : Nat) (s cutset : List UInt8) (w0 : World) (r : List UInt8) (h : D_strings_Trim N s cutset = some r) :
    Calls Tryd.prog 72 #[.string (bs s), .string (bs cutset)] w0 fun e w' => ∃ v, e = .returned v ∧ v = .string (bs r) ∧ Mem w0.heap.size w0 w' [] := by
  unfold D_strings_Trim at h
  split at h
  · rename_i hc
    cases h
    obtain ⟨h1, h2, h3⟩ := hc
    refine (Any.strings_Trim_laid lays160 (by kernel_rfl) (bs s) (bs cutset) w0 (by rw [bs_size]; exact h1) (by rw [bs_size]; exact h2) (fun j b hb => ?_)).mono ?_
    · exact of_decide_eq_true (List.all_eq_true.1 h3 b (List.mem_of_getElem? hb))
    · rintro e w' ⟨rfl, hb⟩
      exact ⟨_, rfl, rfl, Mem.fin0 hb⟩
  · cases h
theorem W_strings_Count (N : Nat) (s substr : List UInt8) (w0 : World) (r : Int) (h : D_strings_Count N s substr = some r) :
    Calls Tryd.prog 73 #[.string (bs s), .string (bs substr)] w0 fun e w' => ∃ v, e = .returned v ∧ v = .int .i64 r ∧ Mem w0.heap.size w0 w' [] := by
  unfold D_strings_Count at h
  split at h
  · rename_i c
    cases h
    refine (Any.strings_Count_one lays138 (bs s) c w0).mono ?_
    rintro e w' ⟨rfl, rfl⟩
    exact ⟨_, rfl, rfl, Mem.start w'⟩
  · cases h
end Go.Proofs.YtpmnfhifmmfglacDoor

namespace Go.Proofs.YtpmnfhifmmfglacDoor
open Go.RowKit Go.Shelf
section
variable {base : Nat} {W w : World} {L : List Ent} {g c n : Nat} {A : Option Addr} {b d b2 : List UInt8}
theorem W_bld_check (M : Mem base W w (.bld g 54 A n c :: L)) :
    Calls Tryd.prog 60 #[.pointer (some ⟨g, 0, none⟩)] w fun e w' => ∃ v, e = .returned v ∧ Mem base W w' (.blk g 54 [.pointer (some ⟨g, 0, none⟩), .slice A n c] :: L) := by
  obtain ⟨p, hp, hb⟩ := M.has 0 _ rfl
  have hb' : w.heap[g]? = some (.cells #[.pointer p, .slice A n c] 54 (0, 0)) := hb
  have M1 : Mem base W w (.blk g 54 [.pointer p, .slice A n c] :: L) := M.swap 0 rfl hb rfl
  rcases hp with rfl | rfl
  · refine (Any.Builder_copyCheck_fresh { lays166 with } Builder_Extra_166.toX72 g w (M1.cell (i := 0) rfl (k := 0) rfl) (by simp [World.shape?, hb', lays166_ren]) (by simp [World.frozen?, hb'])).mono ?_
    rintro e w' ⟨rfl, rfl⟩
    exact ⟨_, rfl, M1.set 0 rfl 0 _⟩
  · refine (Any.Builder_copyCheck_used { lays166 with } Builder_Extra_166.toX72 g w (M1.cell (i := 0) rfl (k := 0) rfl)).mono ?_
    rintro e w' ⟨rfl, rfl⟩
    exact ⟨_, rfl, M1⟩
set_option maxRecDepth 100000 in
set_option maxHeartbeats 4000000 in
theorem W_bld_write (M : Mem base W w (.bld g 54 A b.length c :: .row 5 1 A b.length c ((cI .u8).all (ofB b)) :: L)) (h : bwr b d = some b2) :
    Calls Tryd.prog 27 #[.pointer (some ⟨g, 0, none⟩), .string (bs d)] w fun e w' => ∃ v, e = .returned v ∧ ∃ A' c', Mem base W w' (.bld g 54 A' b2.length c' :: .row 5 1 A' b2.length c' ((cI .u8).all (ofB b2)) :: L) := by
  obtain ⟨rfl, hl⟩ := bwr_spec h
  have happ : app 1 (ofB b) (ofB d) = some (ofB b ++ ofB d) := by
    unfold app
    rw [if_pos (by rw [ofB_len, ofB_len]; omega)]
  replace M : Mem base W w (.bld g 54 A (ofB b).length c :: .row 5 1 A (ofB b).length c ((cI .u8).all (ofB b)) :: L) := by rw [ofB_len]; exact M
  refine X_enter Tryd.func27 rfl Tryd.ntmps27 rfl ?_
  intro a K
  have K : Kn a 19 [(0, .pointer (some ⟨g, 0, none⟩)), (1, .string (bs d))] := K
  refine wp_seq (X_reg ?_)
  refine X_o K M ?_; clear K
  refine Y_o M ?_; intro a K
  refine wpList_nil (then_n (wp_seq (X_reg ?_)))
  refine X_o K M ?_; clear K; intro a K
  refine X_a K (ac_call (vs := [.pointer (some ⟨g, 0, none⟩)]) (cap := []) rfl fok60 K rfl rfl (W_bld_check M)) ?_
  clear K M; rintro _ a w M K
  refine wpList_nil (then_n (wp_seq (X_reg ?_)))
  refine X_o K M ?_; clear K
  refine Y_o M ?_
  refine Y_o M ?_
  refine Y_r (fun _ K => rd_field rfl (show fldT Tryd.prog 54 1 = some 1 by kernel_rfl) K rfl) M ?_
  refine Y_r (fun _ K => rd_ldC rfl sc52 K rfl (inM 0 rfl) rfl) M ?_
  refine Y_o M ?_; intro a K
  refine X_a K (ac_appS rfl sl52 st9 zu5 K rfl rfl 1 M rfl happ) ?_
  clear K M; rintro _ a w ⟨A', c', rfl, M⟩ K
  refine X_o K M ?_; clear K
  refine Y_r (fun _ K => rd_field rfl (show fldT Tryd.prog 54 1 = some 1 by kernel_rfl) K rfl) M ?_; intro a K
  refine X_b K (ac_storeC rfl sc52 K rfl rfl rfl 0 M rfl rfl) ?_
  clear K M; rintro _ a w M K
  refine wpList_nil (then_n (wp_seq (X_reg ?_)))
  refine X_o K M ?_; clear K
  refine Y_r (fun _ K => rd_lenT rfl st9 K rfl) M ?_
  refine Y_o M ?_
  refine Y_o M ?_; intro a K
  refine wpList_nil (then_n (wp_ret ?_))
  replace M : Mem base W w (.blk g 54 [.pointer (some ⟨g, 0, none⟩), .slice A' (ofB b ++ ofB d).length c'] :: .row 5 1 A' (ofB b ++ ofB d).length c' ((cI .u8).all (ofB b ++ ofB d)) :: L) := M
  have M2 : Mem base W w (.bld g 54 A' (ofB b ++ ofB d).length c' :: .row 5 1 A' (ofB b ++ ofB d).length c' ((cI .u8).all (ofB b ++ ofB d)) :: L) := M.unBld 0 rfl
  have e : (ofB b ++ ofB d) = ofB (b ++ d) := (List.map_append ..).symm
  rw [e, ofB_len] at M2
  exact ret2 K rfl (res_tmp K rfl) (res_tmp K rfl) ⟨_, rfl, A', c', M2⟩
theorem W_bld_string (M : Mem W.heap.size W w (.bld g 54 A b.length c :: .row 5 1 A b.length c ((cI .u8).all (ofB b)) :: L)) :
    Calls Tryd.prog 28 #[.pointer (some ⟨g, 0, none⟩)] w fun e w' => ∃ v, e = .returned v ∧ v = .string (bs b) ∧ Mem W.heap.size W w' [] := by
  refine (Builder_String W.heap.size g b w M.builder M.sz).mono ?_
  rintro e w' ⟨rfl, h2⟩
  exact ⟨_, rfl, rfl, Mem.fin0 (M.low.trans h2)⟩
end
end Go.Proofs.YtpmnfhifmmfglacDoor
