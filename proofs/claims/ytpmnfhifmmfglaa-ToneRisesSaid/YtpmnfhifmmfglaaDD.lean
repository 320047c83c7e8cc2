/- Printed by a program (walk.py): what the functions compute, as plain programs. -/
import Derived.Test.YtpmnfhifmmfglaaDP
set_option linter.unusedVariables false
set_option linter.unusedSimpArgs false
set_option linter.unusedSectionVars false
namespace Go.Proofs.Ytpmnfhifmmfglaa

def D_sensor_fine_l1 (N : Nat) (p_P : List Int) (kk : Int → Option Bool) : Nat → Int → Option Bool
  | 0, _ => none
  | fuel + 1, i =>
    cond (decide (i < (p_P.length : Int))) (
    Option.bind (idx p_P i) fun e2 =>
    cond (decide (e2 < 0)) (
    some false) (
    cond (decide (65535 < e2)) (
    some false) (
    D_sensor_fine_l1 N p_P kk fuel (IntKind.i64.wrap (i + 1))))) (
    kk i)

def D_sensor_fine (N : Nat) (p_W : Int) (p_H : Int) (p_P : List Int) : Option Bool :=
  cond (decide (p_W < 1)) (
  some false) (
  cond (decide (64 < p_W)) (
  some false) (
  cond (decide (p_H < 1)) (
  some false) (
  cond (decide (64 < p_H)) (
  some false) (
  cond (!decide ((p_P.length : Int) = (IntKind.i64.wrap (p_W * p_H)))) (
  some false) (
  D_sensor_fine_l1 N p_P (fun i2 =>
  some true) N 0)))))

def D_sensor_Level_1 (N : Nat) (n : Int) (x2 : Int) (y : Int) (v00 : Int) (v01 : Int) (v02 : Int) (v03 : Int) (v1 : Int) : Option Int :=
  Option.bind (inr (orI .i64 (shlI .i64 (andI .i64 y 1) 1) (andI .i64 x2 1)) 4) fun _ =>
  Option.bind (idx [v00, v01, v02, v03] (orI .i64 (shlI .i64 (andI .i64 y 1) 1) (andI .i64 x2 1))) fun e =>
  Option.bind (nz (IntKind.i64.wrap (v1 - e))) fun _ =>
  some (IntKind.i64.wrap (Int.tdiv (IntKind.i64.wrap ((max (IntKind.i64.wrap (n - e)) 0) * 65535)) (IntKind.i64.wrap (v1 - e))))

def D_sensor_each__sensor_Level_1_l1 (N : Nat) (p_W : Int) (p_P : List Int) (Level_1_00 : Int) (Level_1_01 : Int) (Level_1_02 : Int) (Level_1_03 : Int) (Level_1_1 : Int) (kk : (List Int × Int) → Option (Int × Int × List Int)) : Nat → (List Int × Int) → Option (Int × Int × List Int)
  | 0, _ => none
  | fuel + 1, (out_P, i) =>
    cond (decide (i < (p_P.length : Int))) (
    Option.bind (idx p_P i) fun e3 =>
    Option.bind (nz p_W) fun _ =>
    Option.bind (nz p_W) fun _ =>
    Option.bind (D_sensor_Level_1 N e3 (Int.tmod i p_W) (IntKind.i64.wrap (Int.tdiv i p_W)) Level_1_00 Level_1_01 Level_1_02 Level_1_03 Level_1_1) fun r3 =>
    Option.bind (idx out_P i) fun e4 =>
    Option.bind (setL out_P i (min r3 65535)) fun l4 =>
    D_sensor_each__sensor_Level_1_l1 N p_W p_P Level_1_00 Level_1_01 Level_1_02 Level_1_03 Level_1_1 kk fuel (l4, IntKind.i64.wrap (i + 1))) (
    kk (out_P, i))

def D_sensor_each__sensor_Level_1 (N : Nat) (p_W : Int) (p_H : Int) (p_P : List Int) (Level_1_00 : Int) (Level_1_01 : Int) (Level_1_02 : Int) (Level_1_03 : Int) (Level_1_1 : Int) : Option (Int × Int × List Int) :=
  Option.bind (some ((p_P.length : Int))) fun x2 =>
  Option.bind (mk 8 x2 (0 : Int)) fun l2 =>
  D_sensor_each__sensor_Level_1_l1 N p_W p_P Level_1_00 Level_1_01 Level_1_02 Level_1_03 Level_1_1 (fun (out_P2, i2) =>
  some (p_W, p_H, out_P2)) N (l2, 0)

def D_sensor_Level_l1 (N : Nat) (black0 : Int) (black1 : Int) (black2 : Int) (black3 : Int) (white : Int) (kk : Int → Option (Int × Int × List Int × Int)) : Nat → Int → Option (Int × Int × List Int × Int)
  | 0, _ => none
  | fuel + 1, i =>
    cond (decide (i < 4)) (
    Option.bind (idx [black0, black1, black2, black3] i) fun e2 =>
    cond (decide (e2 < 0)) (
    some (0, 0, ([] : List Int), 3)) (
    cond (decide (white ≤ e2)) (
    some (0, 0, ([] : List Int), 3)) (
    cond (decide (65535 < white)) (
    some (0, 0, ([] : List Int), 3)) (
    D_sensor_Level_l1 N black0 black1 black2 black3 white kk fuel (IntKind.i64.wrap (i + 1)))))) (
    kk i)

def D_sensor_Level (N : Nat) (p_W : Int) (p_H : Int) (p_P : List Int) (black0 : Int) (black1 : Int) (black2 : Int) (black3 : Int) (white : Int) : Option (Int × Int × List Int × Int) :=
  Option.bind (D_sensor_fine N p_W p_H p_P) fun r2 =>
  cond (!(r2)) (
  some (0, 0, ([] : List Int), 1)) (
  D_sensor_Level_l1 N black0 black1 black2 black3 white (fun i2 =>
  Option.bind (D_sensor_each__sensor_Level_1 N p_W p_H p_P black0 black1 black2 black3 white) fun r3 =>
  some (r3.1, r3.2.1, r3.2.2, 0)) N 0)

def D_darkslideref_within (N : Nat) (n : Int) (low : Int) (high : Int) : Option Bool :=
  cond (decide (low ≤ n)) (
  some (decide (n ≤ high))) (
  some false)

def D_darkslideref_PlaneFine_l1 (N : Nat) (p_P : List Int) (kk : Int → Option Bool) : Nat → Int → Option Bool
  | 0, _ => none
  | fuel + 1, i =>
    cond (decide (i < (p_P.length : Int))) (
    Option.bind (idx p_P i) fun e2 =>
    Option.bind (D_darkslideref_within N e2 0 65535) fun r5 =>
    cond (!(r5)) (
    some false) (
    Option.bind (some (IntKind.i64.wrap (i + 1))) fun i3 =>
    D_darkslideref_PlaneFine_l1 N p_P kk fuel i3)) (
    kk i)

def D_darkslideref_PlaneFine (N : Nat) (p_W : Int) (p_H : Int) (p_P : List Int) : Option Bool :=
  Option.bind (D_darkslideref_within N p_W 1 64) fun r2 =>
  cond (!(r2)) (
  some false) (
  Option.bind (D_darkslideref_within N p_H 1 64) fun r3 =>
  cond (!(r3)) (
  some false) (
  cond (!decide ((p_P.length : Int) = (IntKind.i64.wrap (p_W * p_H)))) (
  some false) (
  D_darkslideref_PlaneFine_l1 N p_P (fun i4 =>
  some true) N 0)))

def D_darkslideref_LevelError_l1 (N : Nat) (black0 : Int) (black1 : Int) (black2 : Int) (black3 : Int) (white : Int) (kk : Int → Option Int) : Nat → Int → Option Int
  | 0, _ => none
  | fuel + 1, i =>
    cond (decide (i < 4)) (
    Option.bind (inr i 4) fun _ =>
    Option.bind (idx [black0, black1, black2, black3] i) fun e2 =>
    Option.bind (D_darkslideref_within N e2 0 (IntKind.i64.wrap (white - 1))) fun r5 =>
    cond (!(r5)) (
    some 3) (
    Option.bind (some (IntKind.i64.wrap (i + 1))) fun i3 =>
    D_darkslideref_LevelError_l1 N black0 black1 black2 black3 white kk fuel i3)) (
    kk i)

def D_darkslideref_LevelError (N : Nat) (p_W : Int) (p_H : Int) (p_P : List Int) (black0 : Int) (black1 : Int) (black2 : Int) (black3 : Int) (white : Int) : Option Int :=
  Option.bind (D_darkslideref_PlaneFine N p_W p_H p_P) fun r2 =>
  cond (!(r2)) (
  some 1) (
  Option.bind (D_darkslideref_within N white 1 65535) fun r3 =>
  cond (!(r3)) (
  some 3) (
  D_darkslideref_LevelError_l1 N black0 black1 black2 black3 white (fun i4 =>
  some 0) N 0))

def D_darkslideref_At (N : Nat) (p_W : Int) (p_H : Int) (p_P : List Int) (x2 : Int) (y : Int) : Option Int :=
  Option.bind (idx p_P (IntKind.i64.wrap ((IntKind.i64.wrap (y * p_W)) + x2))) fun e =>
  some e

def D_darkslideref_down (N : Nat) (n : Int) (by2 : Int) : Option Int :=
  Option.bind (nz by2) fun _ =>
  Option.bind (some (IntKind.i64.wrap (Int.tdiv n by2))) fun q =>
  cond (decide (n < (IntKind.i64.wrap (q * by2)))) (
  Option.bind (some (IntKind.i64.wrap (q - 1))) fun q2 =>
  some q2) (
  some q)

def D_darkslideref_clamp (N : Nat) (n : Int) : Option Int :=
  some (max 0 (min n 65535))

def D_darkslideref_Levelled_l2 (N : Nat) (p_W : Int) (p_H : Int) (p_P : List Int) (black0 : Int) (black1 : Int) (black2 : Int) (black3 : Int) (white : Int) (y : Int) (kk : (List Int × Int) → Option (Int × Int × List Int)) : Nat → (List Int × Int) → Option (Int × Int × List Int)
  | 0, _ => none
  | fuel + 1, (out_P4, x4) =>
    cond (decide (x4 < p_W)) (
    Option.bind (inr (IntKind.i64.wrap ((IntKind.i64.wrap ((Int.tmod y 2) * 2)) + (Int.tmod x4 2))) 4) fun _ =>
    Option.bind (idx [black0, black1, black2, black3] (IntKind.i64.wrap ((IntKind.i64.wrap ((Int.tmod y 2) * 2)) + (Int.tmod x4 2)))) fun e3 =>
    Option.bind (D_darkslideref_At N p_W p_H p_P x4 y) fun r8 =>
    Option.bind (D_darkslideref_down N (IntKind.i64.wrap ((IntKind.i64.wrap (r8 - e3)) * 65535)) (IntKind.i64.wrap (white - e3))) fun r9 =>
    Option.bind (D_darkslideref_clamp N r9) fun r10 =>
    Option.bind (app 8 out_P4 ([r10] : List Int)) fun out_P6 =>
    Option.bind (some (IntKind.i64.wrap (x4 + 1))) fun x6 =>
    D_darkslideref_Levelled_l2 N p_W p_H p_P black0 black1 black2 black3 white y kk fuel (out_P6, x6)) (
    kk (out_P4, x4))

def D_darkslideref_Levelled_l1 (N : Nat) (p_W : Int) (p_H : Int) (p_P : List Int) (black0 : Int) (black1 : Int) (black2 : Int) (black3 : Int) (white : Int) (kk : (List Int × Int) → Option (Int × Int × List Int)) : Nat → (List Int × Int) → Option (Int × Int × List Int)
  | 0, _ => none
  | fuel + 1, (out_P, y) =>
    cond (decide (y < p_H)) (
    D_darkslideref_Levelled_l2 N p_W p_H p_P black0 black1 black2 black3 white y (fun (out_P7, x7) =>
    Option.bind (some (IntKind.i64.wrap (y + 1))) fun y3 =>
    D_darkslideref_Levelled_l1 N p_W p_H p_P black0 black1 black2 black3 white kk fuel (out_P7, y3)) N (out_P, 0)) (
    kk (out_P, y))

def D_darkslideref_Levelled (N : Nat) (p_W : Int) (p_H : Int) (p_P : List Int) (black0 : Int) (black1 : Int) (black2 : Int) (black3 : Int) (white : Int) : Option (Int × Int × List Int) :=
  D_darkslideref_Levelled_l1 N p_W p_H p_P black0 black1 black2 black3 white (fun (out_P8, y4) =>
  some (p_W, p_H, out_P8)) N (([] : List Int), 0)

def D_darkslidelaw_small (N : Nat)  : Option (Int × Int × List Int) :=
  some (2, 2, ([10, 65535, 0, 7] : List Int))

def D_sensor_colour (N : Nat) (phase : Int) (x2 : Int) (y : Int) : Option Int :=
  some (IntKind.i64.wrap ((andI .i64 (IntKind.i64.wrap (x2 + phase)) 1) + (andI .i64 (IntKind.i64.wrap (y + (shrI .i64 phase 1))) 1)))

def D_sensor_Gain_1 (N : Nat) (n : Int) (x2 : Int) (y : Int) (v00 : Int) (v01 : Int) (v02 : Int) (v1 : Int) : Option Int :=
  Option.bind (D_sensor_colour N v1 x2 y) fun r2 =>
  Option.bind (inr r2 3) fun _ =>
  Option.bind (idx [v00, v01, v02] r2) fun e =>
  some (shrI .i64 (IntKind.i64.wrap (n * e)) 8)

def D_sensor_each__sensor_Gain_1_l1 (N : Nat) (p_W : Int) (p_P : List Int) (Gain_1_00 : Int) (Gain_1_01 : Int) (Gain_1_02 : Int) (Gain_1_1 : Int) (kk : (List Int × Int) → Option (Int × Int × List Int)) : Nat → (List Int × Int) → Option (Int × Int × List Int)
  | 0, _ => none
  | fuel + 1, (out_P, i) =>
    cond (decide (i < (p_P.length : Int))) (
    Option.bind (idx p_P i) fun e3 =>
    Option.bind (nz p_W) fun _ =>
    Option.bind (nz p_W) fun _ =>
    Option.bind (D_sensor_Gain_1 N e3 (Int.tmod i p_W) (IntKind.i64.wrap (Int.tdiv i p_W)) Gain_1_00 Gain_1_01 Gain_1_02 Gain_1_1) fun r3 =>
    Option.bind (idx out_P i) fun e4 =>
    Option.bind (setL out_P i (min r3 65535)) fun l4 =>
    D_sensor_each__sensor_Gain_1_l1 N p_W p_P Gain_1_00 Gain_1_01 Gain_1_02 Gain_1_1 kk fuel (l4, IntKind.i64.wrap (i + 1))) (
    kk (out_P, i))

def D_sensor_each__sensor_Gain_1 (N : Nat) (p_W : Int) (p_H : Int) (p_P : List Int) (Gain_1_00 : Int) (Gain_1_01 : Int) (Gain_1_02 : Int) (Gain_1_1 : Int) : Option (Int × Int × List Int) :=
  Option.bind (some ((p_P.length : Int))) fun x2 =>
  Option.bind (mk 8 x2 (0 : Int)) fun l2 =>
  D_sensor_each__sensor_Gain_1_l1 N p_W p_P Gain_1_00 Gain_1_01 Gain_1_02 Gain_1_1 (fun (out_P2, i2) =>
  some (p_W, p_H, out_P2)) N (l2, 0)

def D_sensor_Gain_l1 (N : Nat) (phase : Int) (gains0 : Int) (gains1 : Int) (gains2 : Int) (kk : Int → Option (Int × Int × List Int × Int)) : Nat → Int → Option (Int × Int × List Int × Int)
  | 0, _ => none
  | fuel + 1, i =>
    cond (decide (i < 3)) (
    Option.bind (idx [gains0, gains1, gains2] i) fun e2 =>
    cond (decide (e2 < 0)) (
    some (0, 0, ([] : List Int), 3)) (
    cond (decide (65535 < e2)) (
    some (0, 0, ([] : List Int), 3)) (
    cond (decide (phase < 0)) (
    some (0, 0, ([] : List Int), 3)) (
    cond (decide (3 < phase)) (
    some (0, 0, ([] : List Int), 3)) (
    D_sensor_Gain_l1 N phase gains0 gains1 gains2 kk fuel (IntKind.i64.wrap (i + 1))))))) (
    kk i)

def D_sensor_Gain (N : Nat) (p_W : Int) (p_H : Int) (p_P : List Int) (phase : Int) (gains0 : Int) (gains1 : Int) (gains2 : Int) : Option (Int × Int × List Int × Int) :=
  Option.bind (D_sensor_fine N p_W p_H p_P) fun r2 =>
  cond (!(r2)) (
  some (0, 0, ([] : List Int), 1)) (
  D_sensor_Gain_l1 N phase gains0 gains1 gains2 (fun i2 =>
  Option.bind (D_sensor_each__sensor_Gain_1 N p_W p_H p_P gains0 gains1 gains2 phase) fun r3 =>
  some (r3.1, r3.2.1, r3.2.2, 0)) N 0)

def D_darkslideref_GainError (N : Nat) (p_W : Int) (p_H : Int) (p_P : List Int) (phase : Int) (gains0 : Int) (gains1 : Int) (gains2 : Int) : Option Int :=
  Option.bind (D_darkslideref_PlaneFine N p_W p_H p_P) fun r2 =>
  cond (!(r2)) (
  some 1) (
  Option.bind (D_darkslideref_within N phase 0 3) fun r3 =>
  cond (!(r3)) (
  some 3) (
  Option.bind (D_darkslideref_within N gains0 0 65535) fun r4 =>
  cond (!(r4)) (
  some 3) (
  Option.bind (D_darkslideref_within N gains1 0 65535) fun r5 =>
  cond (!(r5)) (
  some 3) (
  Option.bind (D_darkslideref_within N gains2 0 65535) fun r6 =>
  cond (!(r6)) (
  some 3) (
  some 0)))))

def D_darkslideref_ColourAt (N : Nat) (phase : Int) (x2 : Int) (y : Int) : Option Int :=
  Option.bind (some (Int.tmod (IntKind.i64.wrap (x2 + (Int.tmod phase 2))) 2)) fun a2 =>
  Option.bind (some (Int.tmod (IntKind.i64.wrap (y + (IntKind.i64.wrap (Int.tdiv phase 2)))) 2)) fun b =>
  cond (decide (a2 = 0)) (
  cond (decide (b = 0)) (
  some 0) (
  cond (decide (a2 = 1)) (
  cond (decide (b = 1)) (
  some 2) (
  some 1)) (
  some 1))) (
  cond (decide (a2 = 1)) (
  cond (decide (b = 1)) (
  some 2) (
  some 1)) (
  some 1))

def D_darkslideref_Gained_l1 (N : Nat) (p_W : Int) (p_P : List Int) (phase : Int) (gains0 : Int) (gains1 : Int) (gains2 : Int) (kk : (List Int × Int) → Option (Int × Int × List Int)) : Nat → (List Int × Int) → Option (Int × Int × List Int)
  | 0, _ => none
  | fuel + 1, (out_P, i) =>
    cond (decide (i < (p_P.length : Int))) (
    Option.bind (idx p_P i) fun e3 =>
    Option.bind (nz p_W) fun _ =>
    Option.bind (nz p_W) fun _ =>
    Option.bind (D_darkslideref_ColourAt N phase (Int.tmod i p_W) (IntKind.i64.wrap (Int.tdiv i p_W))) fun r4 =>
    Option.bind (inr r4 3) fun _ =>
    Option.bind (idx [gains0, gains1, gains2] r4) fun e4 =>
    Option.bind (D_darkslideref_clamp N (IntKind.i64.wrap (Int.tdiv (IntKind.i64.wrap (e3 * e4)) 256))) fun r5 =>
    Option.bind (app 8 out_P ([r5] : List Int)) fun out_P3 =>
    Option.bind (some (IntKind.i64.wrap (i + 1))) fun i3 =>
    D_darkslideref_Gained_l1 N p_W p_P phase gains0 gains1 gains2 kk fuel (out_P3, i3)) (
    kk (out_P, i))

def D_darkslideref_Gained (N : Nat) (p_W : Int) (p_H : Int) (p_P : List Int) (phase : Int) (gains0 : Int) (gains1 : Int) (gains2 : Int) : Option (Int × Int × List Int) :=
  D_darkslideref_Gained_l1 N p_W p_P phase gains0 gains1 gains2 (fun (out_P4, i4) =>
  some (p_W, p_H, out_P4)) N (([] : List Int), 0)

def D_sensor_Colour (N : Nat) (phase : Int) (x2 : Int) (y : Int) : Option (Int × Int) :=
  cond (decide (phase < 0)) (
  some (0, 3)) (
  cond (decide (3 < phase)) (
  some (0, 3)) (
  cond (decide (x2 < 0)) (
  some (0, 3)) (
  cond (decide (y < 0)) (
  some (0, 3)) (
  Option.bind (D_sensor_colour N phase (andI .i64 x2 1) (andI .i64 y 1)) fun r2 =>
  some (r2, 0)))))

def D_mosaic_fine_l1 (N : Nat) (q_P : List (Int × Int × Int)) (kk : Int → Option Bool) : Nat → Int → Option Bool
  | 0, _ => none
  | fuel + 1, i =>
    cond (decide (i < (q_P.length : Int))) (
    Option.bind (idx q_P i) fun e2 =>
    cond (decide ((min (min e2.1 e2.2.1) e2.2.2) < 0)) (
    some false) (
    cond (decide (65535 < (max (max e2.1 e2.2.1) e2.2.2))) (
    some false) (
    D_mosaic_fine_l1 N q_P kk fuel (IntKind.i64.wrap (i + 1))))) (
    kk i)

def D_mosaic_fine (N : Nat) (q_W : Int) (q_H : Int) (q_P : List (Int × Int × Int)) : Option Bool :=
  cond (decide (q_W < 1)) (
  some false) (
  cond (decide (64 < q_W)) (
  some false) (
  cond (decide (q_H < 1)) (
  some false) (
  cond (decide (64 < q_H)) (
  some false) (
  cond (!decide ((q_P.length : Int) = (IntKind.i64.wrap (q_W * q_H)))) (
  some false) (
  D_mosaic_fine_l1 N q_P (fun i2 =>
  some true) N 0)))))

def D_mosaic_Take_l1 (N : Nat) (q_W : Int) (q_P : List (Int × Int × Int)) (phase : Int) (kk : (List Int × Int) → Option (Int × Int × List Int × Int)) : Nat → (List Int × Int) → Option (Int × Int × List Int × Int)
  | 0, _ => none
  | fuel + 1, (out_P, i) =>
    cond (decide (i < (q_P.length : Int))) (
    Option.bind (nz q_W) fun _ =>
    Option.bind (nz q_W) fun _ =>
    Option.bind (D_sensor_Colour N phase (Int.tmod i q_W) (IntKind.i64.wrap (Int.tdiv i q_W))) fun r4 =>
    Option.bind (idx q_P i) fun e2 =>
    cond (decide (r4.1 = 0)) (
    Option.bind (app 8 out_P ([e2.1] : List Int)) fun out_P5 =>
    D_mosaic_Take_l1 N q_W q_P phase kk fuel (out_P5, IntKind.i64.wrap (i + 1))) (
    cond (decide (r4.1 = 1)) (
    Option.bind (app 8 out_P ([e2.2.1] : List Int)) fun out_P6 =>
    D_mosaic_Take_l1 N q_W q_P phase kk fuel (out_P6, IntKind.i64.wrap (i + 1))) (
    Option.bind (app 8 out_P ([e2.2.2] : List Int)) fun out_P7 =>
    D_mosaic_Take_l1 N q_W q_P phase kk fuel (out_P7, IntKind.i64.wrap (i + 1))))) (
    kk (out_P, i))

def D_mosaic_Take (N : Nat) (q_W : Int) (q_H : Int) (q_P : List (Int × Int × Int)) (phase : Int) : Option (Int × Int × List Int × Int) :=
  Option.bind (D_mosaic_fine N q_W q_H q_P) fun r2 =>
  cond (!(r2)) (
  some (0, 0, ([] : List Int), 1)) (
  cond (decide (phase < 0)) (
  some (0, 0, ([] : List Int), 3)) (
  cond (decide (3 < phase)) (
  some (0, 0, ([] : List Int), 3)) (
  D_mosaic_Take_l1 N q_W q_P phase (fun (out_P8, i2) =>
  some (q_W, q_H, out_P8, 0)) N (([] : List Int), 0))))

def D_turn_Cut_l1 (N : Nat) (d_W : Int) (d_P : List (Int × Int × Int)) (o_X : Int) (o_Y : Int) (o_W : Int) (o_H : Int) (kk : (List (Int × Int × Int) × Int) → Option (Int × Int × List (Int × Int × Int) × Int)) : Nat → (List (Int × Int × Int) × Int) → Option (Int × Int × List (Int × Int × Int) × Int)
  | 0, _ => none
  | fuel + 1, (x_P, i) =>
    cond (decide (i < o_H)) (
    Option.bind (some (IntKind.i64.wrap ((IntKind.i64.wrap ((IntKind.i64.wrap (o_Y + i)) * d_W)) + o_X))) fun x3 =>
    Option.bind (sli d_P x3 (IntKind.i64.wrap (x3 + o_W))) fun l3 =>
    Option.bind (app 24 x_P l3) fun x_P3 =>
    D_turn_Cut_l1 N d_W d_P o_X o_Y o_W o_H kk fuel (x_P3, IntKind.i64.wrap (i + 1))) (
    kk (x_P, i))

def D_turn_Cut (N : Nat) (d_W : Int) (d_H : Int) (d_P : List (Int × Int × Int)) (o_X : Int) (o_Y : Int) (o_W : Int) (o_H : Int) : Option (Int × Int × List (Int × Int × Int) × Int) :=
  Option.bind (D_mosaic_Take N d_W d_H d_P 0) fun r2 =>
  cond (!decide (r2.2.2.2 = 0)) (
  some (0, 0, ([] : List (Int × Int × Int)), r2.2.2.2)) (
  cond (decide (o_W < 1)) (
  some (0, 0, ([] : List (Int × Int × Int)), 3)) (
  cond (decide (o_H < 1)) (
  some (0, 0, ([] : List (Int × Int × Int)), 3)) (
  cond (decide (d_W < o_W)) (
  some (0, 0, ([] : List (Int × Int × Int)), 3)) (
  cond (decide (d_H < o_H)) (
  some (0, 0, ([] : List (Int × Int × Int)), 3)) (
  cond (decide (o_X < 0)) (
  some (0, 0, ([] : List (Int × Int × Int)), 3)) (
  cond (decide (o_Y < 0)) (
  some (0, 0, ([] : List (Int × Int × Int)), 3)) (
  cond (decide ((IntKind.i64.wrap (d_W - o_W)) < o_X)) (
  some (0, 0, ([] : List (Int × Int × Int)), 3)) (
  cond (decide ((IntKind.i64.wrap (d_H - o_H)) < o_Y)) (
  some (0, 0, ([] : List (Int × Int × Int)), 3)) (
  D_turn_Cut_l1 N d_W d_P o_X o_Y o_W o_H (fun (x_P4, i2) =>
  some (o_W, o_H, x_P4, 0)) N (([] : List (Int × Int × Int)), 0))))))))))

def D_darkslideref_PictureFine_l1 (N : Nat) (q_P : List (Int × Int × Int)) (kk : Int → Option Bool) : Nat → Int → Option Bool
  | 0, _ => none
  | fuel + 1, i =>
    cond (decide (i < (q_P.length : Int))) (
    Option.bind (idx q_P i) fun e4 =>
    Option.bind (D_darkslideref_within N e4.1 0 65535) fun r7 =>
    cond (!(r7)) (
    some false) (
    Option.bind (idx q_P i) fun e5 =>
    Option.bind (D_darkslideref_within N e5.2.1 0 65535) fun r8 =>
    cond (!(r8)) (
    some false) (
    Option.bind (idx q_P i) fun e6 =>
    Option.bind (D_darkslideref_within N e6.2.2 0 65535) fun r9 =>
    cond (!(r9)) (
    some false) (
    Option.bind (some (IntKind.i64.wrap (i + 1))) fun i3 =>
    D_darkslideref_PictureFine_l1 N q_P kk fuel i3)))) (
    kk i)

def D_darkslideref_PictureFine (N : Nat) (q_W : Int) (q_H : Int) (q_P : List (Int × Int × Int)) : Option Bool :=
  Option.bind (D_darkslideref_within N q_W 1 64) fun r2 =>
  cond (!(r2)) (
  some false) (
  Option.bind (D_darkslideref_within N q_H 1 64) fun r3 =>
  cond (!(r3)) (
  some false) (
  cond (!decide ((q_P.length : Int) = (IntKind.i64.wrap (q_W * q_H)))) (
  some false) (
  D_darkslideref_PictureFine_l1 N q_P (fun i4 =>
  some true) N 0)))

def D_darkslideref_CutError (N : Nat) (q_W : Int) (q_H : Int) (q_P : List (Int × Int × Int)) (r_X : Int) (r_Y : Int) (r_W : Int) (r_H : Int) : Option Int :=
  Option.bind (D_darkslideref_PictureFine N q_W q_H q_P) fun r2 =>
  cond (!(r2)) (
  some 1) (
  Option.bind (D_darkslideref_within N r_W 1 q_W) fun r3 =>
  cond (!(r3)) (
  some 3) (
  Option.bind (D_darkslideref_within N r_H 1 q_H) fun r4 =>
  cond (!(r4)) (
  some 3) (
  Option.bind (D_darkslideref_within N r_X 0 (IntKind.i64.wrap (q_W - r_W))) fun r5 =>
  cond (!(r5)) (
  some 3) (
  Option.bind (D_darkslideref_within N r_Y 0 (IntKind.i64.wrap (q_H - r_H))) fun r6 =>
  cond (!(r6)) (
  some 3) (
  some 0)))))

def D_darkslideref_CutOf_l1 (N : Nat) (q_W : Int) (q_P : List (Int × Int × Int)) (r_X : Int) (r_Y : Int) (r_W : Int) (r_H : Int) (kk : (List (Int × Int × Int) × Int) → Option (Int × Int × List (Int × Int × Int))) : Nat → (List (Int × Int × Int) × Int) → Option (Int × Int × List (Int × Int × Int))
  | 0, _ => none
  | fuel + 1, (out_P, y) =>
    cond (decide (y < (IntKind.i64.wrap (r_Y + r_H)))) (
    Option.bind (sli q_P (IntKind.i64.wrap ((IntKind.i64.wrap (y * q_W)) + r_X)) (IntKind.i64.wrap ((IntKind.i64.wrap ((IntKind.i64.wrap (y * q_W)) + r_X)) + r_W))) fun l3 =>
    Option.bind (app 24 out_P l3) fun out_P3 =>
    Option.bind (some (IntKind.i64.wrap (y + 1))) fun y3 =>
    D_darkslideref_CutOf_l1 N q_W q_P r_X r_Y r_W r_H kk fuel (out_P3, y3)) (
    kk (out_P, y))

def D_darkslideref_CutOf (N : Nat) (q_W : Int) (q_H : Int) (q_P : List (Int × Int × Int)) (r_X : Int) (r_Y : Int) (r_W : Int) (r_H : Int) : Option (Int × Int × List (Int × Int × Int)) :=
  D_darkslideref_CutOf_l1 N q_W q_P r_X r_Y r_W r_H (fun (out_P4, y4) =>
  some (r_W, r_H, out_P4)) N (([] : List (Int × Int × Int)), r_Y)

def D_turn_moves (N : Nat)  : Option (Bool × Bool × Bool × Bool × Bool × Bool × Bool × Bool × Bool × Bool × Bool × Bool × Bool × Bool × Bool × Bool × Bool × Bool × Bool × Bool × Bool × Bool × Bool × Bool × Bool × Bool × Bool) :=
  some (false, false, false, false, false, false, false, true, false, false, true, true, false, false, true, true, false, false, true, true, false, true, true, true, true, false, true)

def D_turn_swapped_l1 (N : Nat) (q_W : Int) (q_H : Int) (q_P : List (Int × Int × Int)) (kk : (List (Int × Int × Int) × Int) → Option (Int × Int × List (Int × Int × Int))) : Nat → (List (Int × Int × Int) × Int) → Option (Int × Int × List (Int × Int × Int))
  | 0, _ => none
  | fuel + 1, (out_P, i) =>
    cond (decide (i < (q_P.length : Int))) (
    Option.bind (idx q_P i) fun e3 =>
    Option.bind (nz q_W) fun _ =>
    Option.bind (nz q_W) fun _ =>
    Option.bind (idx out_P (IntKind.i64.wrap ((IntKind.i64.wrap ((Int.tmod i q_W) * q_H)) + (IntKind.i64.wrap (Int.tdiv i q_W))))) fun e4 =>
    Option.bind (setL out_P (IntKind.i64.wrap ((IntKind.i64.wrap ((Int.tmod i q_W) * q_H)) + (IntKind.i64.wrap (Int.tdiv i q_W)))) (e3.1, e3.2.1, e3.2.2)) fun l4 =>
    D_turn_swapped_l1 N q_W q_H q_P kk fuel (l4, IntKind.i64.wrap (i + 1))) (
    kk (out_P, i))

def D_turn_swapped (N : Nat) (q_W : Int) (q_H : Int) (q_P : List (Int × Int × Int)) : Option (Int × Int × List (Int × Int × Int)) :=
  Option.bind (some ((q_P.length : Int))) fun x2 =>
  Option.bind (mk 24 x2 ((0, 0, 0) : Int × Int × Int)) fun l2 =>
  D_turn_swapped_l1 N q_W q_H q_P (fun (out_P2, i2) =>
  some (q_H, q_W, out_P2)) N (l2, 0)

def D_turn_Turn_1 (N : Nat) (x2 : Int) (y : Int) (v0_W : Int) (v0_H : Int) (v0_P : List (Int × Int × Int)) : Option Int :=
  some (IntKind.i64.wrap ((IntKind.i64.wrap ((IntKind.i64.wrap ((IntKind.i64.wrap (y * v0_W)) + v0_W)) - 1)) - x2))

def D_turn_changed__turn_Turn_1_l1 (N : Nat) (q_W : Int) (q_P : List (Int × Int × Int)) (Turn_1_0_W : Int) (Turn_1_0_H : Int) (Turn_1_0_P : List (Int × Int × Int)) (kk : (List (Int × Int × Int) × Int) → Option (Int × Int × List (Int × Int × Int))) : Nat → (List (Int × Int × Int) × Int) → Option (Int × Int × List (Int × Int × Int))
  | 0, _ => none
  | fuel + 1, (out_P, i) =>
    cond (decide (i < (q_P.length : Int))) (
    Option.bind (idx q_P i) fun e3 =>
    Option.bind (nz q_W) fun _ =>
    Option.bind (nz q_W) fun _ =>
    Option.bind (D_turn_Turn_1 N (Int.tmod i q_W) (IntKind.i64.wrap (Int.tdiv i q_W)) Turn_1_0_W Turn_1_0_H Turn_1_0_P) fun r3 =>
    Option.bind (idx out_P r3) fun e4 =>
    Option.bind (setL out_P r3 (e3.1, e3.2.1, e3.2.2)) fun l4 =>
    D_turn_changed__turn_Turn_1_l1 N q_W q_P Turn_1_0_W Turn_1_0_H Turn_1_0_P kk fuel (l4, IntKind.i64.wrap (i + 1))) (
    kk (out_P, i))

def D_turn_changed__turn_Turn_1 (N : Nat) (q_W : Int) (q_H : Int) (q_P : List (Int × Int × Int)) (Turn_1_0_W : Int) (Turn_1_0_H : Int) (Turn_1_0_P : List (Int × Int × Int)) : Option (Int × Int × List (Int × Int × Int)) :=
  Option.bind (some ((q_P.length : Int))) fun x2 =>
  Option.bind (mk 24 x2 ((0, 0, 0) : Int × Int × Int)) fun l2 =>
  D_turn_changed__turn_Turn_1_l1 N q_W q_P Turn_1_0_W Turn_1_0_H Turn_1_0_P (fun (out_P2, i2) =>
  some (q_W, q_H, out_P2)) N (l2, 0)

def D_turn_Turn_2 (N : Nat) (x2 : Int) (y : Int) (v0_W : Int) (v0_H : Int) (v0_P : List (Int × Int × Int)) : Option Int :=
  some (IntKind.i64.wrap ((IntKind.i64.wrap ((IntKind.i64.wrap ((IntKind.i64.wrap (v0_H - 1)) - y)) * v0_W)) + x2))

def D_turn_changed__turn_Turn_2_l1 (N : Nat) (q_W : Int) (q_P : List (Int × Int × Int)) (Turn_2_0_W : Int) (Turn_2_0_H : Int) (Turn_2_0_P : List (Int × Int × Int)) (kk : (List (Int × Int × Int) × Int) → Option (Int × Int × List (Int × Int × Int))) : Nat → (List (Int × Int × Int) × Int) → Option (Int × Int × List (Int × Int × Int))
  | 0, _ => none
  | fuel + 1, (out_P, i) =>
    cond (decide (i < (q_P.length : Int))) (
    Option.bind (idx q_P i) fun e3 =>
    Option.bind (nz q_W) fun _ =>
    Option.bind (nz q_W) fun _ =>
    Option.bind (D_turn_Turn_2 N (Int.tmod i q_W) (IntKind.i64.wrap (Int.tdiv i q_W)) Turn_2_0_W Turn_2_0_H Turn_2_0_P) fun r3 =>
    Option.bind (idx out_P r3) fun e4 =>
    Option.bind (setL out_P r3 (e3.1, e3.2.1, e3.2.2)) fun l4 =>
    D_turn_changed__turn_Turn_2_l1 N q_W q_P Turn_2_0_W Turn_2_0_H Turn_2_0_P kk fuel (l4, IntKind.i64.wrap (i + 1))) (
    kk (out_P, i))

def D_turn_changed__turn_Turn_2 (N : Nat) (q_W : Int) (q_H : Int) (q_P : List (Int × Int × Int)) (Turn_2_0_W : Int) (Turn_2_0_H : Int) (Turn_2_0_P : List (Int × Int × Int)) : Option (Int × Int × List (Int × Int × Int)) :=
  Option.bind (some ((q_P.length : Int))) fun x2 =>
  Option.bind (mk 24 x2 ((0, 0, 0) : Int × Int × Int)) fun l2 =>
  D_turn_changed__turn_Turn_2_l1 N q_W q_P Turn_2_0_W Turn_2_0_H Turn_2_0_P (fun (out_P2, i2) =>
  some (q_W, q_H, out_P2)) N (l2, 0)

def D_turn_Turn_3 (N : Nat) (x2 : Int) (y : Int) (v0_W : Int) (v0_H : Int) (v0_P : List (Int × Int × Int)) : Option Int :=
  some (IntKind.i64.wrap ((IntKind.i64.wrap (y * v0_W)) + x2))

def D_turn_changed__turn_Turn_3_l1 (N : Nat) (q_W : Int) (q_P : List (Int × Int × Int)) (Turn_3_0_W : Int) (Turn_3_0_H : Int) (Turn_3_0_P : List (Int × Int × Int)) (kk : (List (Int × Int × Int) × Int) → Option (Int × Int × List (Int × Int × Int))) : Nat → (List (Int × Int × Int) × Int) → Option (Int × Int × List (Int × Int × Int))
  | 0, _ => none
  | fuel + 1, (out_P, i) =>
    cond (decide (i < (q_P.length : Int))) (
    Option.bind (idx q_P i) fun e3 =>
    Option.bind (nz q_W) fun _ =>
    Option.bind (nz q_W) fun _ =>
    Option.bind (D_turn_Turn_3 N (Int.tmod i q_W) (IntKind.i64.wrap (Int.tdiv i q_W)) Turn_3_0_W Turn_3_0_H Turn_3_0_P) fun r3 =>
    Option.bind (idx out_P r3) fun e4 =>
    Option.bind (setL out_P r3 (e3.1, e3.2.1, e3.2.2)) fun l4 =>
    D_turn_changed__turn_Turn_3_l1 N q_W q_P Turn_3_0_W Turn_3_0_H Turn_3_0_P kk fuel (l4, IntKind.i64.wrap (i + 1))) (
    kk (out_P, i))

def D_turn_changed__turn_Turn_3 (N : Nat) (q_W : Int) (q_H : Int) (q_P : List (Int × Int × Int)) (Turn_3_0_W : Int) (Turn_3_0_H : Int) (Turn_3_0_P : List (Int × Int × Int)) : Option (Int × Int × List (Int × Int × Int)) :=
  Option.bind (some ((q_P.length : Int))) fun x2 =>
  Option.bind (mk 24 x2 ((0, 0, 0) : Int × Int × Int)) fun l2 =>
  D_turn_changed__turn_Turn_3_l1 N q_W q_P Turn_3_0_W Turn_3_0_H Turn_3_0_P (fun (out_P2, i2) =>
  some (q_W, q_H, out_P2)) N (l2, 0)

def D_turn_Turn (N : Nat) (q_W : Int) (q_H : Int) (q_P : List (Int × Int × Int)) (how : Int) : Option (Int × Int × List (Int × Int × Int) × Int) :=
  Option.bind (D_mosaic_Take N q_W q_H q_P 0) fun r2 =>
  cond (!decide (r2.2.2.2 = 0)) (
  some (0, 0, ([] : List (Int × Int × Int)), r2.2.2.2)) (
  cond (decide (how < 1)) (
  some (0, 0, ([] : List (Int × Int × Int)), 3)) (
  cond (decide (8 < how)) (
  some (0, 0, ([] : List (Int × Int × Int)), 3)) (
  Option.bind (D_turn_moves N ) fun r3 =>
  Option.bind (idx [(r3.1, r3.2.1, r3.2.2.1), (r3.2.2.2.1, r3.2.2.2.2.1, r3.2.2.2.2.2.1), (r3.2.2.2.2.2.2.1, r3.2.2.2.2.2.2.2.1, r3.2.2.2.2.2.2.2.2.1), (r3.2.2.2.2.2.2.2.2.2.1, r3.2.2.2.2.2.2.2.2.2.2.1, r3.2.2.2.2.2.2.2.2.2.2.2.1), (r3.2.2.2.2.2.2.2.2.2.2.2.2.1, r3.2.2.2.2.2.2.2.2.2.2.2.2.2.1, r3.2.2.2.2.2.2.2.2.2.2.2.2.2.2.1), (r3.2.2.2.2.2.2.2.2.2.2.2.2.2.2.2.1, r3.2.2.2.2.2.2.2.2.2.2.2.2.2.2.2.2.1, r3.2.2.2.2.2.2.2.2.2.2.2.2.2.2.2.2.2.1), (r3.2.2.2.2.2.2.2.2.2.2.2.2.2.2.2.2.2.2.1, r3.2.2.2.2.2.2.2.2.2.2.2.2.2.2.2.2.2.2.2.1, r3.2.2.2.2.2.2.2.2.2.2.2.2.2.2.2.2.2.2.2.2.1), (r3.2.2.2.2.2.2.2.2.2.2.2.2.2.2.2.2.2.2.2.2.2.1, r3.2.2.2.2.2.2.2.2.2.2.2.2.2.2.2.2.2.2.2.2.2.2.1, r3.2.2.2.2.2.2.2.2.2.2.2.2.2.2.2.2.2.2.2.2.2.2.2.1), (r3.2.2.2.2.2.2.2.2.2.2.2.2.2.2.2.2.2.2.2.2.2.2.2.2.1, r3.2.2.2.2.2.2.2.2.2.2.2.2.2.2.2.2.2.2.2.2.2.2.2.2.2.1, r3.2.2.2.2.2.2.2.2.2.2.2.2.2.2.2.2.2.2.2.2.2.2.2.2.2.2)] how) fun e =>
  cond (e.1) (
  Option.bind (D_turn_swapped N q_W q_H q_P) fun r4 =>
  cond (e.2.1) (
  Option.bind (D_turn_changed__turn_Turn_1 N r4.1 r4.2.1 r4.2.2 r4.1 r4.2.1 r4.2.2) fun r5 =>
  cond (e.2.2) (
  Option.bind (D_turn_changed__turn_Turn_2 N r5.1 r5.2.1 r5.2.2 r5.1 r5.2.1 r5.2.2) fun r6 =>
  Option.bind (D_turn_changed__turn_Turn_3 N r6.1 r6.2.1 r6.2.2 r6.1 r6.2.1 r6.2.2) fun r7 =>
  some (r7.1, r7.2.1, r7.2.2, 0)) (
  Option.bind (D_turn_changed__turn_Turn_3 N r5.1 r5.2.1 r5.2.2 r5.1 r5.2.1 r5.2.2) fun r8 =>
  some (r8.1, r8.2.1, r8.2.2, 0))) (
  cond (e.2.2) (
  Option.bind (D_turn_changed__turn_Turn_2 N r4.1 r4.2.1 r4.2.2 r4.1 r4.2.1 r4.2.2) fun r9 =>
  Option.bind (D_turn_changed__turn_Turn_3 N r9.1 r9.2.1 r9.2.2 r9.1 r9.2.1 r9.2.2) fun r10 =>
  some (r10.1, r10.2.1, r10.2.2, 0)) (
  Option.bind (D_turn_changed__turn_Turn_3 N r4.1 r4.2.1 r4.2.2 r4.1 r4.2.1 r4.2.2) fun r11 =>
  some (r11.1, r11.2.1, r11.2.2, 0)))) (
  cond (e.2.1) (
  Option.bind (D_turn_changed__turn_Turn_1 N q_W q_H q_P q_W q_H q_P) fun r12 =>
  cond (e.2.2) (
  Option.bind (D_turn_changed__turn_Turn_2 N r12.1 r12.2.1 r12.2.2 r12.1 r12.2.1 r12.2.2) fun r13 =>
  Option.bind (D_turn_changed__turn_Turn_3 N r13.1 r13.2.1 r13.2.2 r13.1 r13.2.1 r13.2.2) fun r14 =>
  some (r14.1, r14.2.1, r14.2.2, 0)) (
  Option.bind (D_turn_changed__turn_Turn_3 N r12.1 r12.2.1 r12.2.2 r12.1 r12.2.1 r12.2.2) fun r15 =>
  some (r15.1, r15.2.1, r15.2.2, 0))) (
  cond (e.2.2) (
  Option.bind (D_turn_changed__turn_Turn_2 N q_W q_H q_P q_W q_H q_P) fun r16 =>
  Option.bind (D_turn_changed__turn_Turn_3 N r16.1 r16.2.1 r16.2.2 r16.1 r16.2.1 r16.2.2) fun r17 =>
  some (r17.1, r17.2.1, r17.2.2, 0)) (
  Option.bind (D_turn_changed__turn_Turn_3 N q_W q_H q_P q_W q_H q_P) fun r18 =>
  some (r18.1, r18.2.1, r18.2.2, 0)))))))

def D_turn_after (N : Nat) (a_swap : Bool) (a_mirror : Bool) (a_flip : Bool) (b_swap : Bool) (b_mirror : Bool) (b_flip : Bool) : Option (Bool × Bool × Bool) :=
  cond (b_swap) (
  some (!(a_swap), !decide (a_flip = b_mirror), !decide (a_mirror = b_flip))) (
  some (a_swap, !decide (a_mirror = b_mirror), !decide (a_flip = b_flip)))

def D_turn_number_l1 (N : Nat) (m_swap : Bool) (m_mirror : Bool) (m_flip : Bool) (kk : Int → Option Int) : Nat → Int → Option Int
  | 0, _ => none
  | fuel + 1, how =>
    cond (decide (how < 8)) (
    Option.bind (D_turn_moves N ) fun r3 =>
    Option.bind (idx [(r3.1, r3.2.1, r3.2.2.1), (r3.2.2.2.1, r3.2.2.2.2.1, r3.2.2.2.2.2.1), (r3.2.2.2.2.2.2.1, r3.2.2.2.2.2.2.2.1, r3.2.2.2.2.2.2.2.2.1), (r3.2.2.2.2.2.2.2.2.2.1, r3.2.2.2.2.2.2.2.2.2.2.1, r3.2.2.2.2.2.2.2.2.2.2.2.1), (r3.2.2.2.2.2.2.2.2.2.2.2.2.1, r3.2.2.2.2.2.2.2.2.2.2.2.2.2.1, r3.2.2.2.2.2.2.2.2.2.2.2.2.2.2.1), (r3.2.2.2.2.2.2.2.2.2.2.2.2.2.2.2.1, r3.2.2.2.2.2.2.2.2.2.2.2.2.2.2.2.2.1, r3.2.2.2.2.2.2.2.2.2.2.2.2.2.2.2.2.2.1), (r3.2.2.2.2.2.2.2.2.2.2.2.2.2.2.2.2.2.2.1, r3.2.2.2.2.2.2.2.2.2.2.2.2.2.2.2.2.2.2.2.1, r3.2.2.2.2.2.2.2.2.2.2.2.2.2.2.2.2.2.2.2.2.1), (r3.2.2.2.2.2.2.2.2.2.2.2.2.2.2.2.2.2.2.2.2.2.1, r3.2.2.2.2.2.2.2.2.2.2.2.2.2.2.2.2.2.2.2.2.2.2.1, r3.2.2.2.2.2.2.2.2.2.2.2.2.2.2.2.2.2.2.2.2.2.2.2.1), (r3.2.2.2.2.2.2.2.2.2.2.2.2.2.2.2.2.2.2.2.2.2.2.2.2.1, r3.2.2.2.2.2.2.2.2.2.2.2.2.2.2.2.2.2.2.2.2.2.2.2.2.2.1, r3.2.2.2.2.2.2.2.2.2.2.2.2.2.2.2.2.2.2.2.2.2.2.2.2.2.2)] how) fun e2 =>
    cond (!(decide (e2.1 = m_swap) && decide (e2.2.1 = m_mirror) && decide (e2.2.2 = m_flip))) (
    Option.bind (some (IntKind.i64.wrap (how + 1))) fun how3 =>
    D_turn_number_l1 N m_swap m_mirror m_flip kk fuel how3) (
    kk how)) (
    kk how)

def D_turn_number (N : Nat) (m_swap : Bool) (m_mirror : Bool) (m_flip : Bool) : Option Int :=
  D_turn_number_l1 N m_swap m_mirror m_flip (fun how4 =>
  some how4) N 1

def D_turn_Both (N : Nat) (one : Int) (two : Int) : Option (Int × Int) :=
  cond (decide (one < 1)) (
  some (0, 3)) (
  cond (decide (8 < one)) (
  some (0, 3)) (
  cond (decide (two < 1)) (
  some (0, 3)) (
  cond (decide (8 < two)) (
  some (0, 3)) (
  Option.bind (D_turn_moves N ) fun r2 =>
  Option.bind (idx [(r2.1, r2.2.1, r2.2.2.1), (r2.2.2.2.1, r2.2.2.2.2.1, r2.2.2.2.2.2.1), (r2.2.2.2.2.2.2.1, r2.2.2.2.2.2.2.2.1, r2.2.2.2.2.2.2.2.2.1), (r2.2.2.2.2.2.2.2.2.2.1, r2.2.2.2.2.2.2.2.2.2.2.1, r2.2.2.2.2.2.2.2.2.2.2.2.1), (r2.2.2.2.2.2.2.2.2.2.2.2.2.1, r2.2.2.2.2.2.2.2.2.2.2.2.2.2.1, r2.2.2.2.2.2.2.2.2.2.2.2.2.2.2.1), (r2.2.2.2.2.2.2.2.2.2.2.2.2.2.2.2.1, r2.2.2.2.2.2.2.2.2.2.2.2.2.2.2.2.2.1, r2.2.2.2.2.2.2.2.2.2.2.2.2.2.2.2.2.2.1), (r2.2.2.2.2.2.2.2.2.2.2.2.2.2.2.2.2.2.2.1, r2.2.2.2.2.2.2.2.2.2.2.2.2.2.2.2.2.2.2.2.1, r2.2.2.2.2.2.2.2.2.2.2.2.2.2.2.2.2.2.2.2.2.1), (r2.2.2.2.2.2.2.2.2.2.2.2.2.2.2.2.2.2.2.2.2.2.1, r2.2.2.2.2.2.2.2.2.2.2.2.2.2.2.2.2.2.2.2.2.2.2.1, r2.2.2.2.2.2.2.2.2.2.2.2.2.2.2.2.2.2.2.2.2.2.2.2.1), (r2.2.2.2.2.2.2.2.2.2.2.2.2.2.2.2.2.2.2.2.2.2.2.2.2.1, r2.2.2.2.2.2.2.2.2.2.2.2.2.2.2.2.2.2.2.2.2.2.2.2.2.2.1, r2.2.2.2.2.2.2.2.2.2.2.2.2.2.2.2.2.2.2.2.2.2.2.2.2.2.2)] one) fun e =>
  Option.bind (D_turn_moves N ) fun r3 =>
  Option.bind (idx [(r3.1, r3.2.1, r3.2.2.1), (r3.2.2.2.1, r3.2.2.2.2.1, r3.2.2.2.2.2.1), (r3.2.2.2.2.2.2.1, r3.2.2.2.2.2.2.2.1, r3.2.2.2.2.2.2.2.2.1), (r3.2.2.2.2.2.2.2.2.2.1, r3.2.2.2.2.2.2.2.2.2.2.1, r3.2.2.2.2.2.2.2.2.2.2.2.1), (r3.2.2.2.2.2.2.2.2.2.2.2.2.1, r3.2.2.2.2.2.2.2.2.2.2.2.2.2.1, r3.2.2.2.2.2.2.2.2.2.2.2.2.2.2.1), (r3.2.2.2.2.2.2.2.2.2.2.2.2.2.2.2.1, r3.2.2.2.2.2.2.2.2.2.2.2.2.2.2.2.2.1, r3.2.2.2.2.2.2.2.2.2.2.2.2.2.2.2.2.2.1), (r3.2.2.2.2.2.2.2.2.2.2.2.2.2.2.2.2.2.2.1, r3.2.2.2.2.2.2.2.2.2.2.2.2.2.2.2.2.2.2.2.1, r3.2.2.2.2.2.2.2.2.2.2.2.2.2.2.2.2.2.2.2.2.1), (r3.2.2.2.2.2.2.2.2.2.2.2.2.2.2.2.2.2.2.2.2.2.1, r3.2.2.2.2.2.2.2.2.2.2.2.2.2.2.2.2.2.2.2.2.2.2.1, r3.2.2.2.2.2.2.2.2.2.2.2.2.2.2.2.2.2.2.2.2.2.2.2.1), (r3.2.2.2.2.2.2.2.2.2.2.2.2.2.2.2.2.2.2.2.2.2.2.2.2.1, r3.2.2.2.2.2.2.2.2.2.2.2.2.2.2.2.2.2.2.2.2.2.2.2.2.2.1, r3.2.2.2.2.2.2.2.2.2.2.2.2.2.2.2.2.2.2.2.2.2.2.2.2.2.2)] two) fun e2 =>
  Option.bind (D_turn_after N e.1 e.2.1 e.2.2 e2.1 e2.2.1 e2.2.2) fun r4 =>
  Option.bind (D_turn_number N r4.1 r4.2.1 r4.2.2) fun r5 =>
  some (r5, 0)))))

def D_turn_Back_l1 (N : Nat) (how : Int) (kk : Int → Option (Int × Int)) : Nat → Int → Option (Int × Int)
  | 0, _ => none
  | fuel + 1, i =>
    cond (decide (i < 8)) (
    Option.bind (D_turn_Both N how (IntKind.i64.wrap (i + 1))) fun r3 =>
    cond (decide (r3.1 = 1)) (
    some (IntKind.i64.wrap (i + 1), 0)) (
    D_turn_Back_l1 N how kk fuel (IntKind.i64.wrap (i + 1)))) (
    kk i)

def D_turn_Back (N : Nat) (how : Int) : Option (Int × Int) :=
  cond (decide (how < 1)) (
  some (0, 3)) (
  cond (decide (8 < how)) (
  some (0, 3)) (
  D_turn_Back_l1 N how (fun i2 =>
  some (0, 3)) N 0))

def D_darkslidelaw_turnBegun (N : Nat)  : Option Bool :=
  Option.bind (D_turn_Turn N 2 1 (([(1, 0, 0), (2, 0, 0)] : List (Int × Int × Int))) 6) fun r2 =>
  Option.bind (D_turn_Cut N 2 1 (([(1, 0, 0), (2, 0, 0)] : List (Int × Int × Int))) 1 0 1 1) fun r3 =>
  Option.bind (D_turn_Back N 6) fun r4 =>
  Option.bind (D_turn_Both N 2 4) fun r5 =>
  cond (decide (r2.2.2.2 = 0)) (
  cond (decide (r3.2.2.2 = 0)) (
  cond (decide (r4.2 = 0)) (
  cond (decide (r5.2 = 0)) (
  cond (decide (r2.1 = 1)) (
  cond (decide (r2.2.1 = 2)) (
  cond (decide ((r2.2.2.1.length : Int) = 2)) (
  Option.bind (idx r2.2.2.1 0) fun e =>
  cond (decide (e.1 = 1)) (
  cond (decide ((r3.2.2.1.length : Int) = 1)) (
  Option.bind (idx r3.2.2.1 0) fun e2 =>
  cond (decide (e2.1 = 2)) (
  cond (decide (r4.1 = 8)) (
  some (decide (r5.1 = 3))) (
  some false)) (
  some false)) (
  some false)) (
  some false)) (
  some false)) (
  some false)) (
  some false)) (
  some false)) (
  some false)) (
  some false)) (
  some false)

def D_darkslideref_SamePictures_l1 (N : Nat) (a_P : List (Int × Int × Int)) (b_P : List (Int × Int × Int)) (kk : Int → Option Bool) : Nat → Int → Option Bool
  | 0, _ => none
  | fuel + 1, i =>
    cond (decide (i < (a_P.length : Int))) (
    Option.bind (idx a_P i) fun e3 =>
    Option.bind (idx b_P i) fun e4 =>
    cond (!(decide (e3.1 = e4.1) && decide (e3.2.1 = e4.2.1) && decide (e3.2.2 = e4.2.2))) (
    some false) (
    Option.bind (some (IntKind.i64.wrap (i + 1))) fun i3 =>
    D_darkslideref_SamePictures_l1 N a_P b_P kk fuel i3)) (
    kk i)

def D_darkslideref_SamePictures (N : Nat) (a_W : Int) (a_H : Int) (a_P : List (Int × Int × Int)) (b_W : Int) (b_H : Int) (b_P : List (Int × Int × Int)) : Option Bool :=
  cond (!decide (a_W = b_W)) (
  some false) (
  cond (!decide (a_H = b_H)) (
  some false) (
  cond (!decide ((a_P.length : Int) = (b_P.length : Int))) (
  some false) (
  D_darkslideref_SamePictures_l1 N a_P b_P (fun i4 =>
  some true) N 0)))

def D_darkslidelaw_TurnCuts (N : Nat) (q_W : Int) (q_H : Int) (q_P : List (Int × Int × Int)) (r_X : Int) (r_Y : Int) (r_W : Int) (r_H : Int) : Option Bool :=
  Option.bind (D_turn_Cut N q_W q_H q_P r_X r_Y r_W r_H) fun r2 =>
  Option.bind (D_darkslideref_CutError N q_W q_H q_P r_X r_Y r_W r_H) fun r3 =>
  cond (decide (r3 = 0)) (
  Option.bind (D_darkslideref_CutOf N q_W q_H q_P r_X r_Y r_W r_H) fun r4 =>
  Option.bind (D_darkslidelaw_turnBegun N ) fun r5 =>
  cond (r5) (
  cond (decide (r2.2.2.2 = r3)) (
  Option.bind (D_darkslideref_SamePictures N r2.1 r2.2.1 r2.2.2.1 r4.1 r4.2.1 r4.2.2) fun r6 =>
  some r6) (
  some false)) (
  some false)) (
  Option.bind (D_darkslidelaw_turnBegun N ) fun r7 =>
  cond (r7) (
  cond (decide (r2.2.2.2 = r3)) (
  Option.bind (D_darkslideref_SamePictures N r2.1 r2.2.1 r2.2.2.1 0 0 (([] : List (Int × Int × Int)))) fun r8 =>
  some r8) (
  some false)) (
  some false))

def D_darkslideref_Turned_j6 (N : Nat) (d_H : Int) (i31 : Int) (i37 : Bool) (kk_darkslideref_Turned_j6 : Int → Option (Int × Int × List (Int × Int × Int))) : Option (Int × Int × List (Int × Int × Int)) :=
    cond (i37) (
    Option.bind (some (IntKind.i64.wrap ((IntKind.i64.wrap (d_H - 1)) - i31))) fun x6 =>
    kk_darkslideref_Turned_j6 x6) (
    kk_darkslideref_Turned_j6 i31)

def D_darkslideref_Turned_j5 (N : Nat) (o : Int) (kk_darkslideref_Turned_j5 : Bool → Option (Int × Int × List (Int × Int × Int))) : Option (Int × Int × List (Int × Int × Int)) :=
    cond (decide (o = 3)) (
    kk_darkslideref_Turned_j5 true) (
    cond (decide (o = 4)) (
    kk_darkslideref_Turned_j5 true) (
    cond (decide (o = 6)) (
    kk_darkslideref_Turned_j5 true) (
    kk_darkslideref_Turned_j5 (decide (o = 7)))))

def D_darkslideref_Turned_j4 (N : Nat) (d_W : Int) (i30 : Int) (i33 : Bool) (kk_darkslideref_Turned_j4 : Int → Option (Int × Int × List (Int × Int × Int))) : Option (Int × Int × List (Int × Int × Int)) :=
    cond (i33) (
    Option.bind (some (IntKind.i64.wrap ((IntKind.i64.wrap (d_W - 1)) - i30))) fun x5 =>
    kk_darkslideref_Turned_j4 x5) (
    kk_darkslideref_Turned_j4 i30)

def D_darkslideref_Turned_j3 (N : Nat) (o : Int) (kk_darkslideref_Turned_j3 : Bool → Option (Int × Int × List (Int × Int × Int))) : Option (Int × Int × List (Int × Int × Int)) :=
    cond (decide (o = 2)) (
    kk_darkslideref_Turned_j3 true) (
    cond (decide (o = 3)) (
    kk_darkslideref_Turned_j3 true) (
    cond (decide (o = 7)) (
    kk_darkslideref_Turned_j3 true) (
    kk_darkslideref_Turned_j3 (decide (o = 8)))))

def D_darkslideref_Turned_j2 (N : Nat) (o : Int) (i : Int) (i15 : Int) (kk_darkslideref_Turned_j2 : (Int × Int) → Option (Int × Int × List (Int × Int × Int))) : Option (Int × Int × List (Int × Int × Int)) :=
    cond (decide (5 ≤ o)) (
    kk_darkslideref_Turned_j2 (i, i15)) (
    kk_darkslideref_Turned_j2 (i15, i))

def D_darkslideref_Turned_l2 (N : Nat) (d_W : Int) (d_H : Int) (d_P : List (Int × Int × Int)) (o : Int) (x_W2 : Int) (i : Int) (kk : (List (Int × Int × Int) × Int) → Option (Int × Int × List (Int × Int × Int))) : Nat → (List (Int × Int × Int) × Int) → Option (Int × Int × List (Int × Int × Int))
  | 0, _ => none
  | fuel + 1, (x_P4, i15) =>
    cond (decide (i15 < x_W2)) (
    D_darkslideref_Turned_j2 N o i i15 (fun (i30, i31) =>
    D_darkslideref_Turned_j3 N o (fun i33 =>
    D_darkslideref_Turned_j4 N d_W i30 i33 (fun i35 =>
    D_darkslideref_Turned_j5 N o (fun i37 =>
    D_darkslideref_Turned_j6 N d_H i31 i37 (fun i39 =>
    Option.bind (idx d_P (IntKind.i64.wrap ((IntKind.i64.wrap (i39 * d_W)) + i35))) fun e3 =>
    Option.bind (app 24 x_P4 (([(e3.1, e3.2.1, e3.2.2)] : List (Int × Int × Int)))) fun x_P6 =>
    Option.bind (some (IntKind.i64.wrap (i15 + 1))) fun x7 =>
    D_darkslideref_Turned_l2 N d_W d_H d_P o x_W2 i kk fuel (x_P6, x7))))))) (
    kk (x_P4, i15))

def D_darkslideref_Turned_l1 (N : Nat) (d_W : Int) (d_H : Int) (d_P : List (Int × Int × Int)) (o : Int) (x_W2 : Int) (x_H2 : Int) (kk : (List (Int × Int × Int) × Int) → Option (Int × Int × List (Int × Int × Int))) : Nat → (List (Int × Int × Int) × Int) → Option (Int × Int × List (Int × Int × Int))
  | 0, _ => none
  | fuel + 1, (x_P, i) =>
    cond (decide (i < x_H2)) (
    D_darkslideref_Turned_l2 N d_W d_H d_P o x_W2 i (fun (x_P7, i40) =>
    Option.bind (some (IntKind.i64.wrap (i + 1))) fun x8 =>
    D_darkslideref_Turned_l1 N d_W d_H d_P o x_W2 x_H2 kk fuel (x_P7, x8)) N (x_P, 0)) (
    kk (x_P, i))

def D_darkslideref_Turned_j1 (N : Nat) (d_W : Int) (d_H : Int) (o : Int) (kk_darkslideref_Turned_j1 : (Int × Int) → Option (Int × Int × List (Int × Int × Int))) : Option (Int × Int × List (Int × Int × Int)) :=
    cond (decide (5 ≤ o)) (
    kk_darkslideref_Turned_j1 (d_H, d_W)) (
    kk_darkslideref_Turned_j1 (d_W, d_H))

def D_darkslideref_Turned (N : Nat) (d_W : Int) (d_H : Int) (d_P : List (Int × Int × Int)) (o : Int) : Option (Int × Int × List (Int × Int × Int)) :=
  D_darkslideref_Turned_j1 N d_W d_H o (fun (x_W2, x_H2) =>
  D_darkslideref_Turned_l1 N d_W d_H d_P o x_W2 x_H2 (fun (x_P8, i41) =>
  some (x_W2, x_H2, x_P8)) N (([] : List (Int × Int × Int)), 0))

def D_darkslideref_sample (N : Nat)  : Option (Int × Int × List (Int × Int × Int)) :=
  some (2, 3, ([(1, 0, 0), (2, 0, 0), (3, 0, 0), (4, 0, 0), (5, 0, 0), (6, 0, 0)] : List (Int × Int × Int)))

def D_darkslideref_One_l1 (N : Nat) (r4 : Int × Int × List (Int × Int × Int)) (kk : Int → Option Int) : Nat → Int → Option Int
  | 0, _ => none
  | fuel + 1, how =>
    cond (decide (how ≤ 8)) (
    Option.bind (D_darkslideref_sample N ) fun r8 =>
    Option.bind (D_darkslideref_Turned N r8.1 r8.2.1 r8.2.2 how) fun r9 =>
    Option.bind (D_darkslideref_SamePictures N r9.1 r9.2.1 r9.2.2 r4.1 r4.2.1 r4.2.2) fun r10 =>
    cond (r10) (
    some how) (
    Option.bind (some (IntKind.i64.wrap (how + 1))) fun how3 =>
    D_darkslideref_One_l1 N r4 kk fuel how3)) (
    kk how)

def D_darkslideref_One (N : Nat) (one : Int) (two : Int) : Option Int :=
  Option.bind (D_darkslideref_sample N ) fun r2 =>
  Option.bind (D_darkslideref_Turned N r2.1 r2.2.1 r2.2.2 one) fun r3 =>
  Option.bind (D_darkslideref_Turned N r3.1 r3.2.1 r3.2.2 two) fun r4 =>
  D_darkslideref_One_l1 N r4 (fun how4 =>
  some 0) N 1

def D_darkslidelaw_TurnTurns_j3 (N : Nat) (i7 : Int) (i8 : Int) (r8 : Int) (kk_darkslidelaw_TurnTurns_j3 : Int → Option Bool) : Option Bool :=
    cond (decide (r8 = 1)) (
    kk_darkslidelaw_TurnTurns_j3 i8) (
    kk_darkslidelaw_TurnTurns_j3 i7)

def D_darkslidelaw_TurnTurns_l1 (N : Nat) (o : Int) (kk : (Int × Int) → Option Bool) : Nat → (Int × Int) → Option Bool
  | 0, _ => none
  | fuel + 1, (i7, i8) =>
    cond (decide (i8 ≤ 8)) (
    Option.bind (D_darkslideref_One N o i8) fun r8 =>
    D_darkslidelaw_TurnTurns_j3 N i7 i8 r8 (fun i12 =>
    Option.bind (some (IntKind.i64.wrap (i8 + 1))) fun x3 =>
    D_darkslidelaw_TurnTurns_l1 N o kk fuel (i12, x3))) (
    kk (i7, i8))

def D_darkslidelaw_TurnTurns_j6 (N : Nat) (r2 : Int × Int × List (Int × Int × Int) × Int) (r3 : Int × Int) (r4 : Int × Int) (r6 : Int × Int × List (Int × Int × Int)) (i5 : Int) (i6 : Int) (i19 : Int) (i20 : Int) (kk_darkslidelaw_TurnTurns_j6 : Bool → Option Bool) : Option Bool :=
    Option.bind (D_darkslidelaw_turnBegun N ) fun r10 =>
    cond (r10) (
    cond (decide (r2.2.2.2 = 0)) (
    cond (decide (r3.2 = i5)) (
    cond (decide (r4.2 = i19)) (
    Option.bind (D_darkslideref_SamePictures N r2.1 r2.2.1 r2.2.2.1 r6.1 r6.2.1 r6.2.2) fun r11 =>
    cond (r11) (
    cond (decide (r3.1 = i6)) (
    kk_darkslidelaw_TurnTurns_j6 (decide (r4.1 = i20))) (
    kk_darkslidelaw_TurnTurns_j6 false)) (
    kk_darkslidelaw_TurnTurns_j6 false)) (
    kk_darkslidelaw_TurnTurns_j6 false)) (
    kk_darkslidelaw_TurnTurns_j6 false)) (
    kk_darkslidelaw_TurnTurns_j6 false)) (
    kk_darkslidelaw_TurnTurns_j6 false)

def D_darkslidelaw_TurnTurns_j5 (N : Nat) (o : Int) (p2 : Int) (i16 : Bool) (kk_darkslidelaw_TurnTurns_j5 : (Int × Int) → Option Bool) : Option Bool :=
    cond (i16) (
    Option.bind (D_darkslideref_One N o p2) fun r9 =>
    kk_darkslidelaw_TurnTurns_j5 (0, r9)) (
    kk_darkslidelaw_TurnTurns_j5 (3, 0))

def D_darkslidelaw_TurnTurns_j4 (N : Nat) (p2 : Int) (i2 : Bool) (kk_darkslidelaw_TurnTurns_j4 : Bool → Option Bool) : Option Bool :=
    cond (i2) (
    cond (decide (1 ≤ p2)) (
    kk_darkslidelaw_TurnTurns_j4 (decide (p2 ≤ 8))) (
    kk_darkslidelaw_TurnTurns_j4 false)) (
    kk_darkslidelaw_TurnTurns_j4 false)

def D_darkslidelaw_TurnTurns_j2 (N : Nat) (o : Int) (i2 : Bool) (kk_darkslidelaw_TurnTurns_j2 : (Int × Int) → Option Bool) : Option Bool :=
    cond (i2) (
    D_darkslidelaw_TurnTurns_l1 N o (fun (i13, i14) =>
    kk_darkslidelaw_TurnTurns_j2 (0, i13)) N (0, 1)) (
    kk_darkslidelaw_TurnTurns_j2 (3, 0))

def D_darkslidelaw_TurnTurns_j8 (N : Nat) (i27 : Int) (i28 : Int) (r13 : Int) (kk_darkslidelaw_TurnTurns_j8 : Int → Option Bool) : Option Bool :=
    cond (decide (r13 = 1)) (
    kk_darkslidelaw_TurnTurns_j8 i28) (
    kk_darkslidelaw_TurnTurns_j8 i27)

def D_darkslidelaw_TurnTurns_l2 (N : Nat) (o : Int) (kk : (Int × Int) → Option Bool) : Nat → (Int × Int) → Option Bool
  | 0, _ => none
  | fuel + 1, (i27, i28) =>
    cond (decide (i28 ≤ 8)) (
    Option.bind (D_darkslideref_One N o i28) fun r13 =>
    D_darkslidelaw_TurnTurns_j8 N i27 i28 r13 (fun i32 =>
    Option.bind (some (IntKind.i64.wrap (i28 + 1))) fun x5 =>
    D_darkslidelaw_TurnTurns_l2 N o kk fuel (i32, x5))) (
    kk (i27, i28))

def D_darkslidelaw_TurnTurns_j11 (N : Nat) (r2 : Int × Int × List (Int × Int × Int) × Int) (r3 : Int × Int) (r4 : Int × Int) (i25 : Int) (i26 : Int) (i39 : Int) (i40 : Int) (kk_darkslidelaw_TurnTurns_j11 : Bool → Option Bool) : Option Bool :=
    Option.bind (D_darkslidelaw_turnBegun N ) fun r15 =>
    cond (r15) (
    cond (decide (r2.2.2.2 = 3)) (
    cond (decide (r3.2 = i25)) (
    cond (decide (r4.2 = i39)) (
    Option.bind (D_darkslideref_SamePictures N r2.1 r2.2.1 r2.2.2.1 0 0 (([] : List (Int × Int × Int)))) fun r16 =>
    cond (r16) (
    cond (decide (r3.1 = i26)) (
    kk_darkslidelaw_TurnTurns_j11 (decide (r4.1 = i40))) (
    kk_darkslidelaw_TurnTurns_j11 false)) (
    kk_darkslidelaw_TurnTurns_j11 false)) (
    kk_darkslidelaw_TurnTurns_j11 false)) (
    kk_darkslidelaw_TurnTurns_j11 false)) (
    kk_darkslidelaw_TurnTurns_j11 false)) (
    kk_darkslidelaw_TurnTurns_j11 false)

def D_darkslidelaw_TurnTurns_j10 (N : Nat) (o : Int) (p2 : Int) (i36 : Bool) (kk_darkslidelaw_TurnTurns_j10 : (Int × Int) → Option Bool) : Option Bool :=
    cond (i36) (
    Option.bind (D_darkslideref_One N o p2) fun r14 =>
    kk_darkslidelaw_TurnTurns_j10 (0, r14)) (
    kk_darkslidelaw_TurnTurns_j10 (3, 0))

def D_darkslidelaw_TurnTurns_j9 (N : Nat) (p2 : Int) (i2 : Bool) (kk_darkslidelaw_TurnTurns_j9 : Bool → Option Bool) : Option Bool :=
    cond (i2) (
    cond (decide (1 ≤ p2)) (
    kk_darkslidelaw_TurnTurns_j9 (decide (p2 ≤ 8))) (
    kk_darkslidelaw_TurnTurns_j9 false)) (
    kk_darkslidelaw_TurnTurns_j9 false)

def D_darkslidelaw_TurnTurns_j7 (N : Nat) (o : Int) (i2 : Bool) (kk_darkslidelaw_TurnTurns_j7 : (Int × Int) → Option Bool) : Option Bool :=
    cond (i2) (
    D_darkslidelaw_TurnTurns_l2 N o (fun (i33, i34) =>
    kk_darkslidelaw_TurnTurns_j7 (0, i33)) N (0, 1)) (
    kk_darkslidelaw_TurnTurns_j7 (3, 0))

def D_darkslidelaw_TurnTurns_j13 (N : Nat) (i47 : Int) (i48 : Int) (r18 : Int) (kk_darkslidelaw_TurnTurns_j13 : Int → Option Bool) : Option Bool :=
    cond (decide (r18 = 1)) (
    kk_darkslidelaw_TurnTurns_j13 i48) (
    kk_darkslidelaw_TurnTurns_j13 i47)

def D_darkslidelaw_TurnTurns_l3 (N : Nat) (o : Int) (kk : (Int × Int) → Option Bool) : Nat → (Int × Int) → Option Bool
  | 0, _ => none
  | fuel + 1, (i47, i48) =>
    cond (decide (i48 ≤ 8)) (
    Option.bind (D_darkslideref_One N o i48) fun r18 =>
    D_darkslidelaw_TurnTurns_j13 N i47 i48 r18 (fun i52 =>
    Option.bind (some (IntKind.i64.wrap (i48 + 1))) fun x7 =>
    D_darkslidelaw_TurnTurns_l3 N o kk fuel (i52, x7))) (
    kk (i47, i48))

def D_darkslidelaw_TurnTurns_j16 (N : Nat) (r2 : Int × Int × List (Int × Int × Int) × Int) (r3 : Int × Int) (r4 : Int × Int) (i45 : Int) (i46 : Int) (i59 : Int) (i60 : Int) (kk_darkslidelaw_TurnTurns_j16 : Bool → Option Bool) : Option Bool :=
    Option.bind (D_darkslidelaw_turnBegun N ) fun r20 =>
    cond (r20) (
    cond (decide (r2.2.2.2 = 1)) (
    cond (decide (r3.2 = i45)) (
    cond (decide (r4.2 = i59)) (
    Option.bind (D_darkslideref_SamePictures N r2.1 r2.2.1 r2.2.2.1 0 0 (([] : List (Int × Int × Int)))) fun r21 =>
    cond (r21) (
    cond (decide (r3.1 = i46)) (
    kk_darkslidelaw_TurnTurns_j16 (decide (r4.1 = i60))) (
    kk_darkslidelaw_TurnTurns_j16 false)) (
    kk_darkslidelaw_TurnTurns_j16 false)) (
    kk_darkslidelaw_TurnTurns_j16 false)) (
    kk_darkslidelaw_TurnTurns_j16 false)) (
    kk_darkslidelaw_TurnTurns_j16 false)) (
    kk_darkslidelaw_TurnTurns_j16 false)

def D_darkslidelaw_TurnTurns_j15 (N : Nat) (o : Int) (p2 : Int) (i56 : Bool) (kk_darkslidelaw_TurnTurns_j15 : (Int × Int) → Option Bool) : Option Bool :=
    cond (i56) (
    Option.bind (D_darkslideref_One N o p2) fun r19 =>
    kk_darkslidelaw_TurnTurns_j15 (0, r19)) (
    kk_darkslidelaw_TurnTurns_j15 (3, 0))

def D_darkslidelaw_TurnTurns_j14 (N : Nat) (p2 : Int) (i2 : Bool) (kk_darkslidelaw_TurnTurns_j14 : Bool → Option Bool) : Option Bool :=
    cond (i2) (
    cond (decide (1 ≤ p2)) (
    kk_darkslidelaw_TurnTurns_j14 (decide (p2 ≤ 8))) (
    kk_darkslidelaw_TurnTurns_j14 false)) (
    kk_darkslidelaw_TurnTurns_j14 false)

def D_darkslidelaw_TurnTurns_j12 (N : Nat) (o : Int) (i2 : Bool) (kk_darkslidelaw_TurnTurns_j12 : (Int × Int) → Option Bool) : Option Bool :=
    cond (i2) (
    D_darkslidelaw_TurnTurns_l3 N o (fun (i53, i54) =>
    kk_darkslidelaw_TurnTurns_j12 (0, i53)) N (0, 1)) (
    kk_darkslidelaw_TurnTurns_j12 (3, 0))

def D_darkslidelaw_TurnTurns_j1 (N : Nat) (o : Int) (kk_darkslidelaw_TurnTurns_j1 : Bool → Option Bool) : Option Bool :=
    cond (decide (1 ≤ o)) (
    kk_darkslidelaw_TurnTurns_j1 (decide (o ≤ 8))) (
    kk_darkslidelaw_TurnTurns_j1 false)

def D_darkslidelaw_TurnTurns (N : Nat) (d_W : Int) (d_H : Int) (d_P : List (Int × Int × Int)) (o : Int) (p2 : Int) : Option Bool :=
  Option.bind (D_turn_Turn N d_W d_H d_P o) fun r2 =>
  Option.bind (D_turn_Back N o) fun r3 =>
  Option.bind (D_turn_Both N o p2) fun r4 =>
  D_darkslidelaw_TurnTurns_j1 N o (fun i2 =>
  Option.bind (D_darkslideref_PictureFine N d_W d_H d_P) fun r5 =>
  cond (r5) (
  cond (i2) (
  Option.bind (D_darkslideref_Turned N d_W d_H d_P o) fun r6 =>
  D_darkslidelaw_TurnTurns_j2 N o i2 (fun (i5, i6) =>
  D_darkslidelaw_TurnTurns_j4 N p2 i2 (fun i16 =>
  D_darkslidelaw_TurnTurns_j5 N o p2 i16 (fun (i19, i20) =>
  D_darkslidelaw_TurnTurns_j6 N r2 r3 r4 r6 i5 i6 i19 i20 (fun i22 =>
  some i22))))) (
  D_darkslidelaw_TurnTurns_j7 N o i2 (fun (i25, i26) =>
  D_darkslidelaw_TurnTurns_j9 N p2 i2 (fun i36 =>
  D_darkslidelaw_TurnTurns_j10 N o p2 i36 (fun (i39, i40) =>
  D_darkslidelaw_TurnTurns_j11 N r2 r3 r4 i25 i26 i39 i40 (fun i42 =>
  some i42)))))) (
  D_darkslidelaw_TurnTurns_j12 N o i2 (fun (i45, i46) =>
  D_darkslidelaw_TurnTurns_j14 N p2 i2 (fun i56 =>
  D_darkslidelaw_TurnTurns_j15 N o p2 i56 (fun (i59, i60) =>
  D_darkslidelaw_TurnTurns_j16 N r2 r3 r4 i45 i46 i59 i60 (fun i62 =>
  some i62))))))

def D_darkslidelaw_TurnBack_l2 (N : Nat) (r2 : Int × Int × List (Int × Int × Int) × Int) (r14 : Int × Int × List (Int × Int × Int) × Int) (i : Int) (kk : Int → Option Bool) : Nat → Int → Option Bool
  | 0, _ => none
  | fuel + 1, i3 =>
    cond (decide ((IntKind.i64.wrap (i3 + r14.1)) ≤ r2.1)) (
    Option.bind (D_turn_Cut N r2.1 r2.2.1 r2.2.2.1 i3 i r14.1 r14.2.1) fun r21 =>
    cond (decide (r21.2.2.2 = 0)) (
    Option.bind (D_darkslideref_SamePictures N r21.1 r21.2.1 r21.2.2.1 r14.1 r14.2.1 r14.2.2.1) fun r22 =>
    cond (r22) (
    Option.bind (D_darkslidelaw_turnBegun N ) fun r23 =>
    cond (r23) (
    some (decide (r14.2.2.2 = 0))) (
    some false)) (
    Option.bind (some (IntKind.i64.wrap (i3 + 1))) fun x7 =>
    D_darkslidelaw_TurnBack_l2 N r2 r14 i kk fuel x7)) (
    Option.bind (some (IntKind.i64.wrap (i3 + 1))) fun x8 =>
    D_darkslidelaw_TurnBack_l2 N r2 r14 i kk fuel x8)) (
    kk i3)

def D_darkslidelaw_TurnBack_l1 (N : Nat) (r2 : Int × Int × List (Int × Int × Int) × Int) (r14 : Int × Int × List (Int × Int × Int) × Int) (kk : Int → Option Bool) : Nat → Int → Option Bool
  | 0, _ => none
  | fuel + 1, i =>
    cond (decide ((IntKind.i64.wrap (i + r14.2.1)) ≤ r2.2.1)) (
    D_darkslidelaw_TurnBack_l2 N r2 r14 i (fun i4 =>
    Option.bind (some (IntKind.i64.wrap (i + 1))) fun x9 =>
    D_darkslidelaw_TurnBack_l1 N r2 r14 kk fuel x9) N 0) (
    kk i)

def D_darkslidelaw_TurnBack (N : Nat) (d_W : Int) (d_H : Int) (d_P : List (Int × Int × Int)) (o : Int) (p2 : Int) (p3_X : Int) (p3_Y : Int) (p3_W : Int) (p3_H : Int) : Option Bool :=
  Option.bind (D_turn_Turn N d_W d_H d_P o) fun r2 =>
  Option.bind (D_turn_Turn N r2.1 r2.2.1 r2.2.2.1 p2) fun r3 =>
  cond (!decide (r2.2.2.2 = 0)) (
  Option.bind (D_darkslidelaw_turnBegun N ) fun r4 =>
  some r4) (
  cond (!decide (r3.2.2.2 = 0)) (
  Option.bind (D_darkslidelaw_turnBegun N ) fun r5 =>
  some r5) (
  Option.bind (D_turn_Back N o) fun r6 =>
  Option.bind (D_turn_Both N o p2) fun r7 =>
  Option.bind (D_turn_Turn N r2.1 r2.2.1 r2.2.2.1 r6.1) fun r8 =>
  Option.bind (D_turn_Turn N d_W d_H d_P r7.1) fun r9 =>
  cond (!decide (r6.2 = 0)) (
  some false) (
  cond (!decide (r7.2 = 0)) (
  some false) (
  cond (!decide (r8.2.2.2 = 0)) (
  some false) (
  cond (!decide (r9.2.2.2 = 0)) (
  some false) (
  Option.bind (D_darkslideref_SamePictures N r8.1 r8.2.1 r8.2.2.1 d_W d_H d_P) fun r10 =>
  cond (!(r10)) (
  some false) (
  Option.bind (D_darkslideref_SamePictures N r9.1 r9.2.1 r9.2.2.1 r3.1 r3.2.1 r3.2.2.1) fun r11 =>
  cond (!(r11)) (
  some false) (
  Option.bind (D_turn_Cut N d_W d_H d_P p3_X p3_Y p3_W p3_H) fun r12 =>
  cond (!decide (r12.2.2.2 = 0)) (
  Option.bind (D_darkslidelaw_turnBegun N ) fun r13 =>
  some r13) (
  Option.bind (D_turn_Turn N r12.1 r12.2.1 r12.2.2.1 o) fun r14 =>
  D_darkslidelaw_TurnBack_l1 N r2 r14 (fun i5 =>
  some false) N 0)))))))))

def D_tone_clamp (N : Nat) (n : Int) : Option Int :=
  some (max 0 (min n 65535))

def D_tone_Mix_1 (N : Nat) (c_R : Int) (c_G : Int) (c_B : Int) (k : Int) (v00 : Int) (v01 : Int) (v02 : Int) (v03 : Int) (v04 : Int) (v05 : Int) (v06 : Int) (v07 : Int) (v08 : Int) : Option Int :=
  Option.bind (inr k 9) fun _ =>
  Option.bind (idx [v00, v01, v02, v03, v04, v05, v06, v07, v08] k) fun e =>
  Option.bind (inr (IntKind.i64.wrap (k + 1)) 9) fun _ =>
  Option.bind (idx [v00, v01, v02, v03, v04, v05, v06, v07, v08] (IntKind.i64.wrap (k + 1))) fun e2 =>
  Option.bind (inr (IntKind.i64.wrap (k + 2)) 9) fun _ =>
  Option.bind (idx [v00, v01, v02, v03, v04, v05, v06, v07, v08] (IntKind.i64.wrap (k + 2))) fun e3 =>
  Option.bind (D_tone_clamp N (shrI .i64 (IntKind.i64.wrap ((IntKind.i64.wrap ((IntKind.i64.wrap (e * c_R)) + (IntKind.i64.wrap (e2 * c_G)))) + (IntKind.i64.wrap (e3 * c_B)))) 12)) fun r2 =>
  some r2

def D_tone_Mix_2 (N : Nat) (c_R : Int) (c_G : Int) (c_B : Int) (x2 : Int) (y : Int) (v0_00 : Int) (v0_01 : Int) (v0_02 : Int) (v0_03 : Int) (v0_04 : Int) (v0_05 : Int) (v0_06 : Int) (v0_07 : Int) (v0_08 : Int) : Option (Int × Int × Int) :=
  Option.bind (D_tone_Mix_1 N c_R c_G c_B 0 v0_00 v0_01 v0_02 v0_03 v0_04 v0_05 v0_06 v0_07 v0_08) fun r2 =>
  Option.bind (D_tone_Mix_1 N c_R c_G c_B 3 v0_00 v0_01 v0_02 v0_03 v0_04 v0_05 v0_06 v0_07 v0_08) fun r3 =>
  Option.bind (D_tone_Mix_1 N c_R c_G c_B 6 v0_00 v0_01 v0_02 v0_03 v0_04 v0_05 v0_06 v0_07 v0_08) fun r4 =>
  some (r2, r3, r4)

def D_tone_each__tone_Mix_2_l1 (N : Nat) (q_W : Int) (q_P : List (Int × Int × Int)) (Mix_2_0_00 : Int) (Mix_2_0_01 : Int) (Mix_2_0_02 : Int) (Mix_2_0_03 : Int) (Mix_2_0_04 : Int) (Mix_2_0_05 : Int) (Mix_2_0_06 : Int) (Mix_2_0_07 : Int) (Mix_2_0_08 : Int) (kk : (List (Int × Int × Int) × Int) → Option (Int × Int × List (Int × Int × Int) × Int)) : Nat → (List (Int × Int × Int) × Int) → Option (Int × Int × List (Int × Int × Int) × Int)
  | 0, _ => none
  | fuel + 1, (out_P, i) =>
    cond (decide (i < (q_P.length : Int))) (
    Option.bind (idx q_P i) fun e3 =>
    Option.bind (nz q_W) fun _ =>
    Option.bind (nz q_W) fun _ =>
    Option.bind (D_tone_Mix_2 N e3.1 e3.2.1 e3.2.2 (Int.tmod i q_W) (IntKind.i64.wrap (Int.tdiv i q_W)) Mix_2_0_00 Mix_2_0_01 Mix_2_0_02 Mix_2_0_03 Mix_2_0_04 Mix_2_0_05 Mix_2_0_06 Mix_2_0_07 Mix_2_0_08) fun r4 =>
    Option.bind (idx out_P i) fun e4 =>
    Option.bind (setL out_P i (r4.1, r4.2.1, r4.2.2)) fun l4 =>
    D_tone_each__tone_Mix_2_l1 N q_W q_P Mix_2_0_00 Mix_2_0_01 Mix_2_0_02 Mix_2_0_03 Mix_2_0_04 Mix_2_0_05 Mix_2_0_06 Mix_2_0_07 Mix_2_0_08 kk fuel (l4, IntKind.i64.wrap (i + 1))) (
    kk (out_P, i))

def D_tone_each__tone_Mix_2 (N : Nat) (q_W : Int) (q_H : Int) (q_P : List (Int × Int × Int)) (Mix_2_0_00 : Int) (Mix_2_0_01 : Int) (Mix_2_0_02 : Int) (Mix_2_0_03 : Int) (Mix_2_0_04 : Int) (Mix_2_0_05 : Int) (Mix_2_0_06 : Int) (Mix_2_0_07 : Int) (Mix_2_0_08 : Int) : Option (Int × Int × List (Int × Int × Int) × Int) :=
  Option.bind (D_mosaic_Take N q_W q_H q_P 0) fun r2 =>
  cond (!decide (r2.2.2.2 = 0)) (
  some (0, 0, ([] : List (Int × Int × Int)), r2.2.2.2)) (
  Option.bind (some ((q_P.length : Int))) fun x2 =>
  Option.bind (mk 24 x2 ((0, 0, 0) : Int × Int × Int)) fun l2 =>
  D_tone_each__tone_Mix_2_l1 N q_W q_P Mix_2_0_00 Mix_2_0_01 Mix_2_0_02 Mix_2_0_03 Mix_2_0_04 Mix_2_0_05 Mix_2_0_06 Mix_2_0_07 Mix_2_0_08 (fun (out_P2, i2) =>
  some (q_W, q_H, out_P2, 0)) N (l2, 0))

def D_tone_Mix_l1 (N : Nat) (m0 : Int) (m1 : Int) (m2 : Int) (m3 : Int) (m4 : Int) (m5 : Int) (m6 : Int) (m7 : Int) (m8 : Int) (kk : (Bool × Int) → Option (Int × Int × List (Int × Int × Int) × Int)) : Nat → (Bool × Int) → Option (Int × Int × List (Int × Int × Int) × Int)
  | 0, _ => none
  | fuel + 1, (fine, i) =>
    cond (decide (i < 9)) (
    Option.bind (idx [m0, m1, m2, m3, m4, m5, m6, m7, m8] i) fun e2 =>
    cond (fine) (
    cond (decide ((-32768) ≤ e2)) (
    D_tone_Mix_l1 N m0 m1 m2 m3 m4 m5 m6 m7 m8 kk fuel (decide (e2 ≤ 32768), IntKind.i64.wrap (i + 1))) (
    D_tone_Mix_l1 N m0 m1 m2 m3 m4 m5 m6 m7 m8 kk fuel (false, IntKind.i64.wrap (i + 1)))) (
    D_tone_Mix_l1 N m0 m1 m2 m3 m4 m5 m6 m7 m8 kk fuel (false, IntKind.i64.wrap (i + 1)))) (
    kk (fine, i))

def D_tone_Mix (N : Nat) (q_W : Int) (q_H : Int) (q_P : List (Int × Int × Int)) (m0 : Int) (m1 : Int) (m2 : Int) (m3 : Int) (m4 : Int) (m5 : Int) (m6 : Int) (m7 : Int) (m8 : Int) : Option (Int × Int × List (Int × Int × Int) × Int) :=
  D_tone_Mix_l1 N m0 m1 m2 m3 m4 m5 m6 m7 m8 (fun (fine2, i2) =>
  Option.bind (D_tone_each__tone_Mix_2 N q_W q_H q_P m0 m1 m2 m3 m4 m5 m6 m7 m8) fun r2 =>
  cond (decide (r2.2.2.2 = 0)) (
  cond (!(fine2)) (
  some (0, 0, ([] : List (Int × Int × Int)), 3)) (
  some (r2.1, r2.2.1, r2.2.2.1, r2.2.2.2))) (
  some (r2.1, r2.2.1, r2.2.2.1, r2.2.2.2))) N (true, 0)

def D_tone_right_l1 (N : Nat) (d : List (Int × Int)) (l2 : List (Int × Int)) (kk : Int → Option Bool) : Nat → Int → Option Bool
  | 0, _ => none
  | fuel + 1, i =>
    cond (decide (i < (l2.length : Int))) (
    Option.bind (idx d i) fun e9 =>
    Option.bind (idx d (IntKind.i64.wrap (i + 1))) fun e10 =>
    cond (decide (e10.1 ≤ e9.1)) (
    some false) (
    Option.bind (idx d i) fun e11 =>
    Option.bind (idx d (IntKind.i64.wrap (i + 1))) fun e12 =>
    cond (decide (e12.2 < e11.2)) (
    some false) (
    D_tone_right_l1 N d l2 kk fuel (IntKind.i64.wrap (i + 1))))) (
    kk i)

def D_tone_right (N : Nat) (d : List (Int × Int)) : Option Bool :=
  cond (decide ((d.length : Int) < 2)) (
  some false) (
  cond (decide (16 < (d.length : Int))) (
  some false) (
  Option.bind (idx d 0) fun e =>
  cond (!decide (e.1 = 0)) (
  some false) (
  Option.bind (idx d (IntKind.i64.wrap ((d.length : Int) - 1))) fun e2 =>
  cond (!decide (e2.1 = 65535)) (
  some false) (
  Option.bind (idx d 0) fun e3 =>
  cond (decide (e3.2 < 0)) (
  some false) (
  Option.bind (idx d (IntKind.i64.wrap ((d.length : Int) - 1))) fun e4 =>
  cond (decide (65535 < e4.2)) (
  some false) (
  Option.bind (sli d 1 (d.length : Int)) fun l2 =>
  D_tone_right_l1 N d l2 (fun i2 =>
  some true) N 0))))))

def D_tone_on_1 (N : Nat) (i : Int) (v0 : List (Int × Int)) (v1 : Int) : Option Bool :=
  Option.bind (idx v0 i) fun e =>
  some (decide (v1 < e.1))

def D_sort_Search__tone_on_1_l1 (N : Nat) (on_1_0 : List (Int × Int)) (on_1_1 : Int) (kk : (Int × Int) → Option Int) : Nat → (Int × Int) → Option Int
  | 0, _ => none
  | fuel + 1, (i, j) =>
    cond (decide (i < j)) (
    Option.bind (some (IntKind.i64.wrap (shrI .u64 (IntKind.u64.wrap (IntKind.i64.wrap (i + j))) 1))) fun h3 =>
    Option.bind (D_tone_on_1 N h3 on_1_0 on_1_1) fun r3 =>
    cond (!(r3)) (
    Option.bind (some (IntKind.i64.wrap (h3 + 1))) fun i3 =>
    D_sort_Search__tone_on_1_l1 N on_1_0 on_1_1 kk fuel (i3, j)) (
    D_sort_Search__tone_on_1_l1 N on_1_0 on_1_1 kk fuel (i, h3))) (
    kk (i, j))

def D_sort_Search__tone_on_1 (N : Nat) (n : Int) (on_1_0 : List (Int × Int)) (on_1_1 : Int) : Option Int :=
  D_sort_Search__tone_on_1_l1 N on_1_0 on_1_1 (fun (i4, j2) =>
  some i4) N (0, n)

def D_tone_on (N : Nat) (l2 : List (Int × Int)) (x2 : Int) : Option Int :=
  Option.bind (D_sort_Search__tone_on_1 N (l2.length : Int) l2 x2) fun r2 =>
  cond (decide (r2 = (l2.length : Int))) (
  Option.bind (idx l2 (IntKind.i64.wrap (r2 - 1))) fun e =>
  some e.2) (
  Option.bind (idx l2 (IntKind.i64.wrap (r2 - 1))) fun e2 =>
  Option.bind (idx l2 r2) fun e3 =>
  Option.bind (nz (IntKind.i64.wrap (e3.1 - e2.1))) fun _ =>
  Option.bind (some (IntKind.i64.wrap (e2.2 + (IntKind.i64.wrap (Int.tdiv (IntKind.i64.wrap ((IntKind.i64.wrap (e3.2 - e2.2)) * (IntKind.i64.wrap (x2 - e2.1)))) (IntKind.i64.wrap (e3.1 - e2.1))))))) fun x3 =>
  some x3)

def D_tone_Curve (N : Nat) (l2 : List (Int × Int)) (x2 : Int) : Option (Int × Int) :=
  Option.bind (D_tone_right N l2) fun r2 =>
  cond (!(r2)) (
  some (0, 1)) (
  cond (decide (x2 < 0)) (
  some (0, 3)) (
  cond (decide (65535 < x2)) (
  some (0, 3)) (
  Option.bind (D_tone_on N l2 x2) fun r3 =>
  some (r3, 0))))

def D_darkslidelaw_line2 (N : Nat)  : Option (List (Int × Int)) :=
  some (([(0, 0), (65535, 65535)] : List (Int × Int)))

def D_tone_Bend_1 (N : Nat) (c_R : Int) (c_G : Int) (c_B : Int) (x2 : Int) (y : Int) (v0 : List (Int × Int)) : Option (Int × Int × Int) :=
  Option.bind (D_tone_on N v0 c_R) fun r2 =>
  Option.bind (D_tone_on N v0 c_G) fun r3 =>
  Option.bind (D_tone_on N v0 c_B) fun r4 =>
  some (r2, r3, r4)

def D_tone_each__tone_Bend_1_l1 (N : Nat) (q_W : Int) (q_P : List (Int × Int × Int)) (Bend_1_0 : List (Int × Int)) (kk : (List (Int × Int × Int) × Int) → Option (Int × Int × List (Int × Int × Int) × Int)) : Nat → (List (Int × Int × Int) × Int) → Option (Int × Int × List (Int × Int × Int) × Int)
  | 0, _ => none
  | fuel + 1, (out_P, i) =>
    cond (decide (i < (q_P.length : Int))) (
    Option.bind (idx q_P i) fun e3 =>
    Option.bind (nz q_W) fun _ =>
    Option.bind (nz q_W) fun _ =>
    Option.bind (D_tone_Bend_1 N e3.1 e3.2.1 e3.2.2 (Int.tmod i q_W) (IntKind.i64.wrap (Int.tdiv i q_W)) Bend_1_0) fun r4 =>
    Option.bind (idx out_P i) fun e4 =>
    Option.bind (setL out_P i (r4.1, r4.2.1, r4.2.2)) fun l4 =>
    D_tone_each__tone_Bend_1_l1 N q_W q_P Bend_1_0 kk fuel (l4, IntKind.i64.wrap (i + 1))) (
    kk (out_P, i))

def D_tone_each__tone_Bend_1 (N : Nat) (q_W : Int) (q_H : Int) (q_P : List (Int × Int × Int)) (Bend_1_0 : List (Int × Int)) : Option (Int × Int × List (Int × Int × Int) × Int) :=
  Option.bind (D_mosaic_Take N q_W q_H q_P 0) fun r2 =>
  cond (!decide (r2.2.2.2 = 0)) (
  some (0, 0, ([] : List (Int × Int × Int)), r2.2.2.2)) (
  Option.bind (some ((q_P.length : Int))) fun x2 =>
  Option.bind (mk 24 x2 ((0, 0, 0) : Int × Int × Int)) fun l2 =>
  D_tone_each__tone_Bend_1_l1 N q_W q_P Bend_1_0 (fun (out_P2, i2) =>
  some (q_W, q_H, out_P2, 0)) N (l2, 0))

def D_tone_Bend (N : Nat) (q_W : Int) (q_H : Int) (q_P : List (Int × Int × Int)) (l2 : List (Int × Int)) : Option (Int × Int × List (Int × Int × Int) × Int) :=
  Option.bind (D_tone_right N l2) fun r2 =>
  cond (!(r2)) (
  some (0, 0, ([] : List (Int × Int × Int)), 1)) (
  Option.bind (D_tone_each__tone_Bend_1 N q_W q_H q_P l2) fun r3 =>
  some (r3.1, r3.2.1, r3.2.2.1, r3.2.2.2))

def D_tone_Sharpen_1 (N : Nat) (v : Int) (blur : Int) (v0 : Int) : Option Int :=
  Option.bind (D_tone_clamp N (IntKind.i64.wrap (v + (shrI .i64 (IntKind.i64.wrap ((IntKind.i64.wrap (v - (shrI .i64 blur 4))) * v0)) 8)))) fun r2 =>
  some r2

def D_tone_Sharpen_2_l2 (N : Nat) (o : Int) (p2 : Int) (v0_W : Int) (v0_H : Int) (v0_P : List (Int × Int × Int)) (i : Int) (kk : (Int × Int × Int × Int) → Option (Int × Int × Int)) : Nat → (Int × Int × Int × Int) → Option (Int × Int × Int)
  | 0, _ => none
  | fuel + 1, (x_R3, x_G3, x_B3, i3) =>
    cond (decide (i3 ≤ 1)) (
    Option.bind (some (IntKind.i64.wrap ((IntKind.i64.wrap ((min (max (IntKind.i64.wrap (p2 + i)) 0) (IntKind.i64.wrap (v0_H - 1))) * v0_W)) + (min (max (IntKind.i64.wrap (o + i3)) 0) (IntKind.i64.wrap (v0_W - 1)))))) fun x9 =>
    Option.bind (idx v0_P x9) fun e3 =>
    Option.bind (some (IntKind.i64.wrap ((IntKind.i64.wrap (2 - (IntKind.i64.wrap (i3 * i3)))) * (IntKind.i64.wrap (2 - (IntKind.i64.wrap (i * i))))))) fun x10 =>
    Option.bind (some (IntKind.i64.wrap (i3 + 1))) fun x11 =>
    D_tone_Sharpen_2_l2 N o p2 v0_W v0_H v0_P i kk fuel (IntKind.i64.wrap (x_R3 + (IntKind.i64.wrap (x10 * e3.1))), IntKind.i64.wrap (x_G3 + (IntKind.i64.wrap (x10 * e3.2.1))), IntKind.i64.wrap (x_B3 + (IntKind.i64.wrap (x10 * e3.2.2))), x11)) (
    kk (x_R3, x_G3, x_B3, i3))

def D_tone_Sharpen_2_l1 (N : Nat) (o : Int) (p2 : Int) (v0_W : Int) (v0_H : Int) (v0_P : List (Int × Int × Int)) (kk : (Int × Int × Int × Int) → Option (Int × Int × Int)) : Nat → (Int × Int × Int × Int) → Option (Int × Int × Int)
  | 0, _ => none
  | fuel + 1, (x_R, x_G, x_B, i) =>
    cond (decide (i ≤ 1)) (
    D_tone_Sharpen_2_l2 N o p2 v0_W v0_H v0_P i (fun (x_R4, x_G4, x_B4, i4) =>
    Option.bind (some (IntKind.i64.wrap (i + 1))) fun x12 =>
    D_tone_Sharpen_2_l1 N o p2 v0_W v0_H v0_P kk fuel (x_R4, x_G4, x_B4, x12)) N (x_R, x_G, x_B, (-1))) (
    kk (x_R, x_G, x_B, i))

def D_tone_Sharpen_2 (N : Nat) (d_R : Int) (d_G : Int) (d_B : Int) (o : Int) (p2 : Int) (v0_W : Int) (v0_H : Int) (v0_P : List (Int × Int × Int)) (v1_0 : Int) : Option (Int × Int × Int) :=
  D_tone_Sharpen_2_l1 N o p2 v0_W v0_H v0_P (fun (x_R5, x_G5, x_B5, i5) =>
  Option.bind (D_tone_Sharpen_1 N d_R x_R5 v1_0) fun r2 =>
  Option.bind (D_tone_Sharpen_1 N d_G x_G5 v1_0) fun r3 =>
  Option.bind (D_tone_Sharpen_1 N d_B x_B5 v1_0) fun r4 =>
  some (r2, r3, r4)) N (0, 0, 0, (-1))

def D_tone_each__tone_Sharpen_2_l1 (N : Nat) (q_W : Int) (q_P : List (Int × Int × Int)) (Sharpen_2_0_W : Int) (Sharpen_2_0_H : Int) (Sharpen_2_0_P : List (Int × Int × Int)) (Sharpen_2_1_0 : Int) (kk : (List (Int × Int × Int) × Int) → Option (Int × Int × List (Int × Int × Int) × Int)) : Nat → (List (Int × Int × Int) × Int) → Option (Int × Int × List (Int × Int × Int) × Int)
  | 0, _ => none
  | fuel + 1, (out_P, i) =>
    cond (decide (i < (q_P.length : Int))) (
    Option.bind (idx q_P i) fun e3 =>
    Option.bind (nz q_W) fun _ =>
    Option.bind (nz q_W) fun _ =>
    Option.bind (D_tone_Sharpen_2 N e3.1 e3.2.1 e3.2.2 (Int.tmod i q_W) (IntKind.i64.wrap (Int.tdiv i q_W)) Sharpen_2_0_W Sharpen_2_0_H Sharpen_2_0_P Sharpen_2_1_0) fun r4 =>
    Option.bind (idx out_P i) fun e4 =>
    Option.bind (setL out_P i (r4.1, r4.2.1, r4.2.2)) fun l4 =>
    D_tone_each__tone_Sharpen_2_l1 N q_W q_P Sharpen_2_0_W Sharpen_2_0_H Sharpen_2_0_P Sharpen_2_1_0 kk fuel (l4, IntKind.i64.wrap (i + 1))) (
    kk (out_P, i))

def D_tone_each__tone_Sharpen_2 (N : Nat) (q_W : Int) (q_H : Int) (q_P : List (Int × Int × Int)) (Sharpen_2_0_W : Int) (Sharpen_2_0_H : Int) (Sharpen_2_0_P : List (Int × Int × Int)) (Sharpen_2_1_0 : Int) : Option (Int × Int × List (Int × Int × Int) × Int) :=
  Option.bind (D_mosaic_Take N q_W q_H q_P 0) fun r2 =>
  cond (!decide (r2.2.2.2 = 0)) (
  some (0, 0, ([] : List (Int × Int × Int)), r2.2.2.2)) (
  Option.bind (some ((q_P.length : Int))) fun x2 =>
  Option.bind (mk 24 x2 ((0, 0, 0) : Int × Int × Int)) fun l2 =>
  D_tone_each__tone_Sharpen_2_l1 N q_W q_P Sharpen_2_0_W Sharpen_2_0_H Sharpen_2_0_P Sharpen_2_1_0 (fun (out_P2, i2) =>
  some (q_W, q_H, out_P2, 0)) N (l2, 0))

def D_tone_Sharpen (N : Nat) (q_W : Int) (q_H : Int) (q_P : List (Int × Int × Int)) (amount : Int) : Option (Int × Int × List (Int × Int × Int) × Int) :=
  Option.bind (D_tone_each__tone_Sharpen_2 N q_W q_H q_P q_W q_H q_P amount) fun r2 =>
  cond (decide (r2.2.2.2 = 0)) (
  cond (decide (amount < 0)) (
  some (0, 0, ([] : List (Int × Int × Int)), 3)) (
  cond (decide (1024 < amount)) (
  some (0, 0, ([] : List (Int × Int × Int)), 3)) (
  some (r2.1, r2.2.1, r2.2.2.1, r2.2.2.2)))) (
  some (r2.1, r2.2.1, r2.2.2.1, r2.2.2.2))

def D_darkslidelaw_toneBegun (N : Nat)  : Option Bool :=
  Option.bind (D_tone_Mix N 1 1 (([(100, 200, 300)] : List (Int × Int × Int))) 4096 0 0 0 8192 0 0 0 (-1)) fun r2 =>
  Option.bind (D_tone_Curve N (([(0, 0), (10, 5), (65535, 5)] : List (Int × Int))) 5) fun r3 =>
  Option.bind (D_darkslidelaw_line2 N ) fun r4 =>
  Option.bind (D_tone_Bend N 1 1 (([(100, 200, 300)] : List (Int × Int × Int))) r4) fun r5 =>
  Option.bind (D_tone_Sharpen N 2 1 (([(0, 0, 0), (160, 0, 0)] : List (Int × Int × Int))) 256) fun r6 =>
  cond (decide (r2.2.2.2 = 0)) (
  cond (decide (r3.2 = 0)) (
  cond (decide (r5.2.2.2 = 0)) (
  cond (decide (r6.2.2.2 = 0)) (
  cond (decide ((r2.2.2.1.length : Int) = 1)) (
  Option.bind (idx r2.2.2.1 0) fun e =>
  cond (decide (e.1 = 100) && decide (e.2.1 = 400) && decide (e.2.2 = 0)) (
  cond (decide (r3.1 = 2)) (
  Option.bind (D_darkslideref_SamePictures N r5.1 r5.2.1 r5.2.2.1 1 1 (([(100, 200, 300)] : List (Int × Int × Int)))) fun r7 =>
  cond (r7) (
  cond (decide ((r6.2.2.1.length : Int) = 2)) (
  Option.bind (idx r6.2.2.1 1) fun e2 =>
  some (decide (e2.1 = 200))) (
  some false)) (
  some false)) (
  some false)) (
  some false)) (
  some false)) (
  some false)) (
  some false)) (
  some false)) (
  some false)

def D_darkslideref_MixFine_l1 (N : Nat) (m0 : Int) (m1 : Int) (m2 : Int) (m3 : Int) (m4 : Int) (m5 : Int) (m6 : Int) (m7 : Int) (m8 : Int) (kk : Int → Option Bool) : Nat → Int → Option Bool
  | 0, _ => none
  | fuel + 1, i =>
    cond (decide (i < 9)) (
    Option.bind (inr i 9) fun _ =>
    Option.bind (idx [m0, m1, m2, m3, m4, m5, m6, m7, m8] i) fun e2 =>
    Option.bind (D_darkslideref_within N e2 (-32768) 32768) fun r3 =>
    cond (!(r3)) (
    some false) (
    Option.bind (some (IntKind.i64.wrap (i + 1))) fun i3 =>
    D_darkslideref_MixFine_l1 N m0 m1 m2 m3 m4 m5 m6 m7 m8 kk fuel i3)) (
    kk i)

def D_darkslideref_MixFine (N : Nat) (m0 : Int) (m1 : Int) (m2 : Int) (m3 : Int) (m4 : Int) (m5 : Int) (m6 : Int) (m7 : Int) (m8 : Int) : Option Bool :=
  D_darkslideref_MixFine_l1 N m0 m1 m2 m3 m4 m5 m6 m7 m8 (fun i4 =>
  some true) N 0

def D_darkslideref_parts (N : Nat) (c_R : Int) (c_G : Int) (c_B : Int) : Option (Int × Int × Int) :=
  some (c_R, c_G, c_B)

def D_darkslideref_pixel (N : Nat) (l0 : Int) (l1 : Int) (l2 : Int) : Option (Int × Int × Int) :=
  some (l0, l1, l2)

def D_darkslideref_Mixed_l2 (N : Nat) (o0 : Int) (o1 : Int) (o2 : Int) (o3 : Int) (o4 : Int) (o5 : Int) (o6 : Int) (o7 : Int) (o8 : Int) (r6 : Int × Int × Int) (kk : (Int × Int × Int × Int) → Option (Int × Int × List (Int × Int × Int))) : Nat → (Int × Int × Int × Int) → Option (Int × Int × List (Int × Int × Int))
  | 0, _ => none
  | fuel + 1, (x02, x12, x22, i3) =>
    cond (decide (i3 < 3)) (
    Option.bind (inr (IntKind.i64.wrap (3 * i3)) 9) fun _ =>
    Option.bind (idx [o0, o1, o2, o3, o4, o5, o6, o7, o8] (IntKind.i64.wrap (3 * i3))) fun e9 =>
    Option.bind (inr (IntKind.i64.wrap ((IntKind.i64.wrap (3 * i3)) + 1)) 9) fun _ =>
    Option.bind (idx [o0, o1, o2, o3, o4, o5, o6, o7, o8] (IntKind.i64.wrap ((IntKind.i64.wrap (3 * i3)) + 1))) fun e10 =>
    Option.bind (inr (IntKind.i64.wrap ((IntKind.i64.wrap (3 * i3)) + 2)) 9) fun _ =>
    Option.bind (idx [o0, o1, o2, o3, o4, o5, o6, o7, o8] (IntKind.i64.wrap ((IntKind.i64.wrap (3 * i3)) + 2))) fun e11 =>
    Option.bind (D_darkslideref_down N (IntKind.i64.wrap ((IntKind.i64.wrap ((IntKind.i64.wrap (e9 * r6.1)) + (IntKind.i64.wrap (e10 * r6.2.1)))) + (IntKind.i64.wrap (e11 * r6.2.2)))) 4096) fun r9 =>
    Option.bind (D_darkslideref_clamp N r9) fun r10 =>
    cond (decide (i3 = 0)) (
    Option.bind (some (IntKind.i64.wrap (i3 + 1))) fun x10 =>
    D_darkslideref_Mixed_l2 N o0 o1 o2 o3 o4 o5 o6 o7 o8 r6 kk fuel (r10, x12, x22, x10)) (
    cond (decide (i3 = 1)) (
    Option.bind (some (IntKind.i64.wrap (i3 + 1))) fun x11 =>
    D_darkslideref_Mixed_l2 N o0 o1 o2 o3 o4 o5 o6 o7 o8 r6 kk fuel (x02, r10, x22, x11)) (
    cond (decide (i3 = 2)) (
    Option.bind (some (IntKind.i64.wrap (i3 + 1))) fun x13 =>
    D_darkslideref_Mixed_l2 N o0 o1 o2 o3 o4 o5 o6 o7 o8 r6 kk fuel (x02, x12, r10, x13)) (
    none)))) (
    kk (x02, x12, x22, i3))

def D_darkslideref_Mixed_l1 (N : Nat) (d_P : List (Int × Int × Int)) (o0 : Int) (o1 : Int) (o2 : Int) (o3 : Int) (o4 : Int) (o5 : Int) (o6 : Int) (o7 : Int) (o8 : Int) (kk : (List (Int × Int × Int) × Int) → Option (Int × Int × List (Int × Int × Int))) : Nat → (List (Int × Int × Int) × Int) → Option (Int × Int × List (Int × Int × Int))
  | 0, _ => none
  | fuel + 1, (x_P, i) =>
    cond (decide (i < (d_P.length : Int))) (
    Option.bind (idx d_P i) fun e5 =>
    Option.bind (D_darkslideref_parts N e5.1 e5.2.1 e5.2.2) fun r6 =>
    D_darkslideref_Mixed_l2 N o0 o1 o2 o3 o4 o5 o6 o7 o8 r6 (fun (x03, x14, x23, i4) =>
    Option.bind (D_darkslideref_pixel N x03 x14 x23) fun r11 =>
    Option.bind (app 24 x_P (([(r11.1, r11.2.1, r11.2.2)] : List (Int × Int × Int)))) fun x_P3 =>
    Option.bind (some (IntKind.i64.wrap (i + 1))) fun x15 =>
    D_darkslideref_Mixed_l1 N d_P o0 o1 o2 o3 o4 o5 o6 o7 o8 kk fuel (x_P3, x15)) N (0, 0, 0, 0)) (
    kk (x_P, i))

def D_darkslideref_Mixed (N : Nat) (d_W : Int) (d_H : Int) (d_P : List (Int × Int × Int)) (o0 : Int) (o1 : Int) (o2 : Int) (o3 : Int) (o4 : Int) (o5 : Int) (o6 : Int) (o7 : Int) (o8 : Int) : Option (Int × Int × List (Int × Int × Int)) :=
  D_darkslideref_Mixed_l1 N d_P o0 o1 o2 o3 o4 o5 o6 o7 o8 (fun (x_P4, i5) =>
  some (d_W, d_H, x_P4)) N (([] : List (Int × Int × Int)), 0)

def D_darkslidelaw_ToneMixes (N : Nat) (q_W : Int) (q_H : Int) (q_P : List (Int × Int × Int)) (m0 : Int) (m1 : Int) (m2 : Int) (m3 : Int) (m4 : Int) (m5 : Int) (m6 : Int) (m7 : Int) (m8 : Int) : Option Bool :=
  Option.bind (D_tone_Mix N q_W q_H q_P m0 m1 m2 m3 m4 m5 m6 m7 m8) fun r2 =>
  Option.bind (D_darkslideref_PictureFine N q_W q_H q_P) fun r3 =>
  cond (!(r3)) (
  Option.bind (D_darkslidelaw_toneBegun N ) fun r4 =>
  cond (r4) (
  cond (decide (r2.2.2.2 = 1)) (
  Option.bind (D_darkslideref_SamePictures N r2.1 r2.2.1 r2.2.2.1 0 0 (([] : List (Int × Int × Int)))) fun r5 =>
  some r5) (
  some false)) (
  some false)) (
  Option.bind (D_darkslideref_MixFine N m0 m1 m2 m3 m4 m5 m6 m7 m8) fun r6 =>
  cond (!(r6)) (
  Option.bind (D_darkslidelaw_toneBegun N ) fun r7 =>
  cond (r7) (
  cond (decide (r2.2.2.2 = 3)) (
  Option.bind (D_darkslideref_SamePictures N r2.1 r2.2.1 r2.2.2.1 0 0 (([] : List (Int × Int × Int)))) fun r8 =>
  some r8) (
  some false)) (
  some false)) (
  Option.bind (D_darkslideref_Mixed N q_W q_H q_P m0 m1 m2 m3 m4 m5 m6 m7 m8) fun r9 =>
  Option.bind (D_darkslidelaw_toneBegun N ) fun r10 =>
  cond (r10) (
  cond (decide (r2.2.2.2 = 0)) (
  Option.bind (D_darkslideref_SamePictures N r2.1 r2.2.1 r2.2.2.1 r9.1 r9.2.1 r9.2.2) fun r11 =>
  some r11) (
  some false)) (
  some false)))

def D_darkslideref_CurveFine_l1 (N : Nat) (d : List (Int × Int)) (kk : Int → Option Bool) : Nat → Int → Option Bool
  | 0, _ => none
  | fuel + 1, i =>
    cond (decide (i < (d.length : Int))) (
    Option.bind (idx d i) fun e8 =>
    Option.bind (D_darkslideref_within N e8.2 0 65535) fun r4 =>
    cond (!(r4)) (
    some false) (
    cond (decide (0 < i)) (
    Option.bind (idx d i) fun e9 =>
    Option.bind (idx d (IntKind.i64.wrap (i - 1))) fun e10 =>
    cond (decide (e9.1 ≤ e10.1)) (
    some false) (
    Option.bind (idx d i) fun e11 =>
    Option.bind (idx d (IntKind.i64.wrap (i - 1))) fun e12 =>
    cond (decide (e11.2 < e12.2)) (
    some false) (
    Option.bind (some (IntKind.i64.wrap (i + 1))) fun x4 =>
    D_darkslideref_CurveFine_l1 N d kk fuel x4))) (
    Option.bind (some (IntKind.i64.wrap (i + 1))) fun x5 =>
    D_darkslideref_CurveFine_l1 N d kk fuel x5))) (
    kk i)

def D_darkslideref_CurveFine (N : Nat) (d : List (Int × Int)) : Option Bool :=
  Option.bind (D_darkslideref_within N (d.length : Int) 2 16) fun r2 =>
  cond (!(r2)) (
  some false) (
  Option.bind (idx d 0) fun e =>
  cond (!decide (e.1 = 0)) (
  some false) (
  Option.bind (idx d (IntKind.i64.wrap ((d.length : Int) - 1))) fun e2 =>
  cond (!decide (e2.1 = 65535)) (
  some false) (
  D_darkslideref_CurveFine_l1 N d (fun i2 =>
  some true) N 0)))

def D_darkslideref_OnCurve_l1 (N : Nat) (l2 : List (Int × Int)) (x2 : Int) (kk : Int → Option Int) : Nat → Int → Option Int
  | 0, _ => none
  | fuel + 1, i =>
    Option.bind (idx l2 i) fun e2 =>
    cond (decide (e2.1 < x2)) (
    Option.bind (some (IntKind.i64.wrap (i + 1))) fun i3 =>
    D_darkslideref_OnCurve_l1 N l2 x2 kk fuel i3) (
    kk i)

def D_darkslideref_OnCurve (N : Nat) (l2 : List (Int × Int)) (x2 : Int) : Option Int :=
  D_darkslideref_OnCurve_l1 N l2 x2 (fun i4 =>
  Option.bind (idx l2 (IntKind.i64.wrap (i4 - 1))) fun e3 =>
  Option.bind (idx l2 i4) fun e4 =>
  Option.bind (nz (IntKind.i64.wrap (e4.1 - e3.1))) fun _ =>
  Option.bind (some (IntKind.i64.wrap (e3.2 + (IntKind.i64.wrap (Int.tdiv (IntKind.i64.wrap ((IntKind.i64.wrap (e4.2 - e3.2)) * (IntKind.i64.wrap (x2 - e3.1)))) (IntKind.i64.wrap (e4.1 - e3.1))))))) fun x3 =>
  some x3) N 1

def D_darkslideref_Bent_l1 (N : Nat) (q_P : List (Int × Int × Int)) (l2 : List (Int × Int)) (kk : (List (Int × Int × Int) × Int) → Option (Int × Int × List (Int × Int × Int))) : Nat → (List (Int × Int × Int) × Int) → Option (Int × Int × List (Int × Int × Int))
  | 0, _ => none
  | fuel + 1, (out_P, i) =>
    cond (decide (i < (q_P.length : Int))) (
    Option.bind (idx q_P i) fun e2 =>
    Option.bind (D_darkslideref_OnCurve N l2 e2.1) fun r5 =>
    Option.bind (D_darkslideref_OnCurve N l2 e2.2.1) fun r6 =>
    Option.bind (D_darkslideref_OnCurve N l2 e2.2.2) fun r7 =>
    Option.bind (app 24 out_P (([(r5, r6, r7)] : List (Int × Int × Int)))) fun out_P3 =>
    Option.bind (some (IntKind.i64.wrap (i + 1))) fun i3 =>
    D_darkslideref_Bent_l1 N q_P l2 kk fuel (out_P3, i3)) (
    kk (out_P, i))

def D_darkslideref_Bent (N : Nat) (q_W : Int) (q_H : Int) (q_P : List (Int × Int × Int)) (l2 : List (Int × Int)) : Option (Int × Int × List (Int × Int × Int)) :=
  D_darkslideref_Bent_l1 N q_P l2 (fun (out_P4, i4) =>
  some (q_W, q_H, out_P4)) N (([] : List (Int × Int × Int)), 0)

def D_darkslidelaw_ToneBends_j3 (N : Nat) (r2 : Int × Int × List (Int × Int × Int) × Int) (r3 : Int × Int) (v2 : Int) (y2 : Int) (r7 : Int × Int × List (Int × Int × Int)) (kk_darkslidelaw_ToneBends_j3 : Bool → Option Bool) : Option Bool :=
    Option.bind (D_darkslidelaw_toneBegun N ) fun r8 =>
    cond (r8) (
    cond (decide (r2.2.2.2 = 0)) (
    Option.bind (D_darkslideref_SamePictures N r2.1 r2.2.1 r2.2.2.1 r7.1 r7.2.1 r7.2.2) fun r9 =>
    cond (r9) (
    cond (decide (r3.1 = y2)) (
    kk_darkslidelaw_ToneBends_j3 (decide (r3.2 = v2))) (
    kk_darkslidelaw_ToneBends_j3 false)) (
    kk_darkslidelaw_ToneBends_j3 false)) (
    kk_darkslidelaw_ToneBends_j3 false)) (
    kk_darkslidelaw_ToneBends_j3 false)

def D_darkslidelaw_ToneBends_j4 (N : Nat) (r2 : Int × Int × List (Int × Int × Int) × Int) (r3 : Int × Int) (v2 : Int) (y2 : Int) (kk_darkslidelaw_ToneBends_j4 : Bool → Option Bool) : Option Bool :=
    Option.bind (D_darkslidelaw_toneBegun N ) fun r10 =>
    cond (r10) (
    cond (decide (r2.2.2.2 = 1)) (
    Option.bind (D_darkslideref_SamePictures N r2.1 r2.2.1 r2.2.2.1 0 0 (([] : List (Int × Int × Int)))) fun r11 =>
    cond (r11) (
    cond (decide (r3.1 = y2)) (
    kk_darkslidelaw_ToneBends_j4 (decide (r3.2 = v2))) (
    kk_darkslidelaw_ToneBends_j4 false)) (
    kk_darkslidelaw_ToneBends_j4 false)) (
    kk_darkslidelaw_ToneBends_j4 false)) (
    kk_darkslidelaw_ToneBends_j4 false)

def D_darkslidelaw_ToneBends_j2 (N : Nat) (l2 : List (Int × Int)) (x2 : Int) (i2 : Bool) (kk_darkslidelaw_ToneBends_j2 : (Int × Int) → Option Bool) : Option Bool :=
    cond (i2) (
    Option.bind (D_darkslideref_OnCurve N l2 x2) fun r5 =>
    kk_darkslidelaw_ToneBends_j2 (0, r5)) (
    kk_darkslidelaw_ToneBends_j2 (3, 0))

def D_darkslidelaw_ToneBends_j1 (N : Nat) (x2 : Int) (kk_darkslidelaw_ToneBends_j1 : Bool → Option Bool) : Option Bool :=
    cond (decide (0 ≤ x2)) (
    kk_darkslidelaw_ToneBends_j1 (decide (x2 ≤ 65535))) (
    kk_darkslidelaw_ToneBends_j1 false)

def D_darkslidelaw_ToneBends_j5 (N : Nat) (r2 : Int × Int × List (Int × Int × Int) × Int) (r3 : Int × Int) (kk_darkslidelaw_ToneBends_j5 : Bool → Option Bool) : Option Bool :=
    Option.bind (D_darkslidelaw_toneBegun N ) fun r12 =>
    cond (r12) (
    cond (decide (r2.2.2.2 = 1)) (
    Option.bind (D_darkslideref_SamePictures N r2.1 r2.2.1 r2.2.2.1 0 0 (([] : List (Int × Int × Int)))) fun r13 =>
    cond (r13) (
    cond (decide (r3.1 = 0)) (
    kk_darkslidelaw_ToneBends_j5 (decide (r3.2 = 1))) (
    kk_darkslidelaw_ToneBends_j5 false)) (
    kk_darkslidelaw_ToneBends_j5 false)) (
    kk_darkslidelaw_ToneBends_j5 false)) (
    kk_darkslidelaw_ToneBends_j5 false)

def D_darkslidelaw_ToneBends (N : Nat) (q_W : Int) (q_H : Int) (q_P : List (Int × Int × Int)) (l2 : List (Int × Int)) (x2 : Int) : Option Bool :=
  Option.bind (D_tone_Bend N q_W q_H q_P l2) fun r2 =>
  Option.bind (D_tone_Curve N l2 x2) fun r3 =>
  Option.bind (D_darkslideref_CurveFine N l2) fun r4 =>
  cond (r4) (
  D_darkslidelaw_ToneBends_j1 N x2 (fun i2 =>
  D_darkslidelaw_ToneBends_j2 N l2 x2 i2 (fun (v2, y2) =>
  Option.bind (D_darkslideref_PictureFine N q_W q_H q_P) fun r6 =>
  cond (r6) (
  Option.bind (D_darkslideref_Bent N q_W q_H q_P l2) fun r7 =>
  D_darkslidelaw_ToneBends_j3 N r2 r3 v2 y2 r7 (fun i4 =>
  some i4)) (
  D_darkslidelaw_ToneBends_j4 N r2 r3 v2 y2 (fun i6 =>
  some i6))))) (
  D_darkslidelaw_ToneBends_j5 N r2 r3 (fun i8 =>
  some i8))

def D_darkslidelaw_choose (N : Nat) (c : Int) (n : Int) : Option Int :=
  cond (decide (c < 0)) (
  Option.bind (some (IntKind.i64.wrap (0 - (IntKind.i64.wrap (c + 1))))) fun c2 =>
  Option.bind (nz n) fun _ =>
  some (Int.tmod c2 n)) (
  Option.bind (nz n) fun _ =>
  some (Int.tmod c n))

def D_darkslidelaw_ToneRises (N : Nat) (d : List (Int × Int)) (o : Int) (p2 : Int) (p3 : Int) : Option Bool :=
  Option.bind (D_tone_Curve N d o) fun r2 =>
  Option.bind (D_tone_Curve N d p2) fun r3 =>
  cond (decide (r2.2 = 0)) (
  cond (decide (r3.2 = 0)) (
  cond (decide (o ≤ p2)) (
  cond (decide (r3.1 < r2.1)) (
  some false) (
  cond (decide ((d.length : Int) = 0)) (
  Option.bind (D_darkslidelaw_toneBegun N ) fun r4 =>
  cond (r4) (
  some (decide (r2.2 = 1))) (
  some false)) (
  Option.bind (D_darkslidelaw_choose N p3 (d.length : Int)) fun r5 =>
  Option.bind (idx d r5) fun e =>
  Option.bind (D_tone_Curve N d e.1) fun r6 =>
  Option.bind (D_darkslidelaw_toneBegun N ) fun r7 =>
  cond (r7) (
  cond (!decide (r6.2 = 0)) (
  some true) (
  some (decide (r6.1 = e.2)))) (
  some false)))) (
  cond (decide ((d.length : Int) = 0)) (
  Option.bind (D_darkslidelaw_toneBegun N ) fun r8 =>
  cond (r8) (
  some (decide (r2.2 = 1))) (
  some false)) (
  Option.bind (D_darkslidelaw_choose N p3 (d.length : Int)) fun r9 =>
  Option.bind (idx d r9) fun e2 =>
  Option.bind (D_tone_Curve N d e2.1) fun r10 =>
  Option.bind (D_darkslidelaw_toneBegun N ) fun r11 =>
  cond (r11) (
  cond (!decide (r10.2 = 0)) (
  some true) (
  some (decide (r10.1 = e2.2)))) (
  some false)))) (
  cond (decide ((d.length : Int) = 0)) (
  Option.bind (D_darkslidelaw_toneBegun N ) fun r12 =>
  cond (r12) (
  some (decide (r2.2 = 1))) (
  some false)) (
  Option.bind (D_darkslidelaw_choose N p3 (d.length : Int)) fun r13 =>
  Option.bind (idx d r13) fun e3 =>
  Option.bind (D_tone_Curve N d e3.1) fun r14 =>
  Option.bind (D_darkslidelaw_toneBegun N ) fun r15 =>
  cond (r15) (
  cond (!decide (r14.2 = 0)) (
  some true) (
  some (decide (r14.1 = e3.2)))) (
  some false)))) (
  cond (decide ((d.length : Int) = 0)) (
  Option.bind (D_darkslidelaw_toneBegun N ) fun r16 =>
  cond (r16) (
  some (decide (r2.2 = 1))) (
  some false)) (
  Option.bind (D_darkslidelaw_choose N p3 (d.length : Int)) fun r17 =>
  Option.bind (idx d r17) fun e4 =>
  Option.bind (D_tone_Curve N d e4.1) fun r18 =>
  Option.bind (D_darkslidelaw_toneBegun N ) fun r19 =>
  cond (r19) (
  cond (!decide (r18.2 = 0)) (
  some true) (
  some (decide (r18.1 = e4.2)))) (
  some false)))

end Go.Proofs.Ytpmnfhifmmfglaa
