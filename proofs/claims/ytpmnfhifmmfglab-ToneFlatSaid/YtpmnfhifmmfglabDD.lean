/- Printed by a program (walk.py): what the functions compute, as plain programs. -/
import Derived.Test.YtpmnfhifmmfglabDP
set_option linter.unusedVariables false
set_option linter.unusedSimpArgs false
set_option linter.unusedSectionVars false
namespace Go.Proofs.Ytpmnfhifmmfglab

def D_mosaic_fine_l1 (N : Nat) (q_P : List (Int × Int × Int)) (kk : Int → Option Bool) : Nat → Int → Option Bool
  | 0, _ => none
  | fuel + 1, i =>
    cond (decide (i < (q_P.length : Int))) (
    Option.bind (idx q_P i) fun e2 =>
    cond (decide ((min (min e2.1 e2.2.1) e2.2.2) < 0)) (
    some false) (
    cond (decide (65535 < (max (max e2.1 e2.2.1) e2.2.2))) (
    some false) (
    D_mosaic_fine_l1 N q_P kk fuel (IntKind.i64.wrap (i + 1))))) (
    kk i)

def D_mosaic_fine (N : Nat) (q_W : Int) (q_H : Int) (q_P : List (Int × Int × Int)) : Option Bool :=
  cond (decide (q_W < 1)) (
  some false) (
  cond (decide (64 < q_W)) (
  some false) (
  cond (decide (q_H < 1)) (
  some false) (
  cond (decide (64 < q_H)) (
  some false) (
  cond (!decide ((q_P.length : Int) = (IntKind.i64.wrap (q_W * q_H)))) (
  some false) (
  D_mosaic_fine_l1 N q_P (fun i2 =>
  some true) N 0)))))

def D_sensor_colour (N : Nat) (phase : Int) (x2 : Int) (y : Int) : Option Int :=
  some (IntKind.i64.wrap ((andI .i64 (IntKind.i64.wrap (x2 + phase)) 1) + (andI .i64 (IntKind.i64.wrap (y + (shrI .i64 phase 1))) 1)))

def D_sensor_Colour (N : Nat) (phase : Int) (x2 : Int) (y : Int) : Option (Int × Int) :=
  cond (decide (phase < 0)) (
  some (0, 3)) (
  cond (decide (3 < phase)) (
  some (0, 3)) (
  cond (decide (x2 < 0)) (
  some (0, 3)) (
  cond (decide (y < 0)) (
  some (0, 3)) (
  Option.bind (D_sensor_colour N phase (andI .i64 x2 1) (andI .i64 y 1)) fun r2 =>
  some (r2, 0)))))

def D_mosaic_Take_l1 (N : Nat) (q_W : Int) (q_P : List (Int × Int × Int)) (phase : Int) (kk : (List Int × Int) → Option (Int × Int × List Int × Int)) : Nat → (List Int × Int) → Option (Int × Int × List Int × Int)
  | 0, _ => none
  | fuel + 1, (out_P, i) =>
    cond (decide (i < (q_P.length : Int))) (
    Option.bind (nz q_W) fun _ =>
    Option.bind (nz q_W) fun _ =>
    Option.bind (D_sensor_Colour N phase (Int.tmod i q_W) (IntKind.i64.wrap (Int.tdiv i q_W))) fun r4 =>
    Option.bind (idx q_P i) fun e2 =>
    cond (decide (r4.1 = 0)) (
    Option.bind (app 8 out_P ([e2.1] : List Int)) fun out_P5 =>
    D_mosaic_Take_l1 N q_W q_P phase kk fuel (out_P5, IntKind.i64.wrap (i + 1))) (
    cond (decide (r4.1 = 1)) (
    Option.bind (app 8 out_P ([e2.2.1] : List Int)) fun out_P6 =>
    D_mosaic_Take_l1 N q_W q_P phase kk fuel (out_P6, IntKind.i64.wrap (i + 1))) (
    Option.bind (app 8 out_P ([e2.2.2] : List Int)) fun out_P7 =>
    D_mosaic_Take_l1 N q_W q_P phase kk fuel (out_P7, IntKind.i64.wrap (i + 1))))) (
    kk (out_P, i))

def D_mosaic_Take (N : Nat) (q_W : Int) (q_H : Int) (q_P : List (Int × Int × Int)) (phase : Int) : Option (Int × Int × List Int × Int) :=
  Option.bind (D_mosaic_fine N q_W q_H q_P) fun r2 =>
  cond (!(r2)) (
  some (0, 0, ([] : List Int), 1)) (
  cond (decide (phase < 0)) (
  some (0, 0, ([] : List Int), 3)) (
  cond (decide (3 < phase)) (
  some (0, 0, ([] : List Int), 3)) (
  D_mosaic_Take_l1 N q_W q_P phase (fun (out_P8, i2) =>
  some (q_W, q_H, out_P8, 0)) N (([] : List Int), 0))))

def D_tone_clamp (N : Nat) (n : Int) : Option Int :=
  some (max 0 (min n 65535))

def D_tone_Sharpen_1 (N : Nat) (v : Int) (blur : Int) (v0 : Int) : Option Int :=
  Option.bind (D_tone_clamp N (IntKind.i64.wrap (v + (shrI .i64 (IntKind.i64.wrap ((IntKind.i64.wrap (v - (shrI .i64 blur 4))) * v0)) 8)))) fun r2 =>
  some r2

def D_tone_Sharpen_2_l2 (N : Nat) (o : Int) (p2 : Int) (v0_W : Int) (v0_H : Int) (v0_P : List (Int × Int × Int)) (i : Int) (kk : (Int × Int × Int × Int) → Option (Int × Int × Int)) : Nat → (Int × Int × Int × Int) → Option (Int × Int × Int)
  | 0, _ => none
  | fuel + 1, (x_R3, x_G3, x_B3, i3) =>
    cond (decide (i3 ≤ 1)) (
    Option.bind (some (IntKind.i64.wrap ((IntKind.i64.wrap ((min (max (IntKind.i64.wrap (p2 + i)) 0) (IntKind.i64.wrap (v0_H - 1))) * v0_W)) + (min (max (IntKind.i64.wrap (o + i3)) 0) (IntKind.i64.wrap (v0_W - 1)))))) fun x9 =>
    Option.bind (idx v0_P x9) fun e3 =>
    Option.bind (some (IntKind.i64.wrap ((IntKind.i64.wrap (2 - (IntKind.i64.wrap (i3 * i3)))) * (IntKind.i64.wrap (2 - (IntKind.i64.wrap (i * i))))))) fun x10 =>
    Option.bind (some (IntKind.i64.wrap (i3 + 1))) fun x11 =>
    D_tone_Sharpen_2_l2 N o p2 v0_W v0_H v0_P i kk fuel (IntKind.i64.wrap (x_R3 + (IntKind.i64.wrap (x10 * e3.1))), IntKind.i64.wrap (x_G3 + (IntKind.i64.wrap (x10 * e3.2.1))), IntKind.i64.wrap (x_B3 + (IntKind.i64.wrap (x10 * e3.2.2))), x11)) (
    kk (x_R3, x_G3, x_B3, i3))

def D_tone_Sharpen_2_l1 (N : Nat) (o : Int) (p2 : Int) (v0_W : Int) (v0_H : Int) (v0_P : List (Int × Int × Int)) (kk : (Int × Int × Int × Int) → Option (Int × Int × Int)) : Nat → (Int × Int × Int × Int) → Option (Int × Int × Int)
  | 0, _ => none
  | fuel + 1, (x_R, x_G, x_B, i) =>
    cond (decide (i ≤ 1)) (
    D_tone_Sharpen_2_l2 N o p2 v0_W v0_H v0_P i (fun (x_R4, x_G4, x_B4, i4) =>
    Option.bind (some (IntKind.i64.wrap (i + 1))) fun x12 =>
    D_tone_Sharpen_2_l1 N o p2 v0_W v0_H v0_P kk fuel (x_R4, x_G4, x_B4, x12)) N (x_R, x_G, x_B, (-1))) (
    kk (x_R, x_G, x_B, i))

def D_tone_Sharpen_2 (N : Nat) (d_R : Int) (d_G : Int) (d_B : Int) (o : Int) (p2 : Int) (v0_W : Int) (v0_H : Int) (v0_P : List (Int × Int × Int)) (v1_0 : Int) : Option (Int × Int × Int) :=
  D_tone_Sharpen_2_l1 N o p2 v0_W v0_H v0_P (fun (x_R5, x_G5, x_B5, i5) =>
  Option.bind (D_tone_Sharpen_1 N d_R x_R5 v1_0) fun r2 =>
  Option.bind (D_tone_Sharpen_1 N d_G x_G5 v1_0) fun r3 =>
  Option.bind (D_tone_Sharpen_1 N d_B x_B5 v1_0) fun r4 =>
  some (r2, r3, r4)) N (0, 0, 0, (-1))

def D_tone_each__tone_Sharpen_2_l1 (N : Nat) (q_W : Int) (q_P : List (Int × Int × Int)) (Sharpen_2_0_W : Int) (Sharpen_2_0_H : Int) (Sharpen_2_0_P : List (Int × Int × Int)) (Sharpen_2_1_0 : Int) (kk : (List (Int × Int × Int) × Int) → Option (Int × Int × List (Int × Int × Int) × Int)) : Nat → (List (Int × Int × Int) × Int) → Option (Int × Int × List (Int × Int × Int) × Int)
  | 0, _ => none
  | fuel + 1, (out_P, i) =>
    cond (decide (i < (q_P.length : Int))) (
    Option.bind (idx q_P i) fun e3 =>
    Option.bind (nz q_W) fun _ =>
    Option.bind (nz q_W) fun _ =>
    Option.bind (D_tone_Sharpen_2 N e3.1 e3.2.1 e3.2.2 (Int.tmod i q_W) (IntKind.i64.wrap (Int.tdiv i q_W)) Sharpen_2_0_W Sharpen_2_0_H Sharpen_2_0_P Sharpen_2_1_0) fun r4 =>
    Option.bind (idx out_P i) fun e4 =>
    Option.bind (setL out_P i (r4.1, r4.2.1, r4.2.2)) fun l4 =>
    D_tone_each__tone_Sharpen_2_l1 N q_W q_P Sharpen_2_0_W Sharpen_2_0_H Sharpen_2_0_P Sharpen_2_1_0 kk fuel (l4, IntKind.i64.wrap (i + 1))) (
    kk (out_P, i))

def D_tone_each__tone_Sharpen_2 (N : Nat) (q_W : Int) (q_H : Int) (q_P : List (Int × Int × Int)) (Sharpen_2_0_W : Int) (Sharpen_2_0_H : Int) (Sharpen_2_0_P : List (Int × Int × Int)) (Sharpen_2_1_0 : Int) : Option (Int × Int × List (Int × Int × Int) × Int) :=
  Option.bind (D_mosaic_Take N q_W q_H q_P 0) fun r2 =>
  cond (!decide (r2.2.2.2 = 0)) (
  some (0, 0, ([] : List (Int × Int × Int)), r2.2.2.2)) (
  Option.bind (some ((q_P.length : Int))) fun x2 =>
  Option.bind (mk 24 x2 ((0, 0, 0) : Int × Int × Int)) fun l2 =>
  D_tone_each__tone_Sharpen_2_l1 N q_W q_P Sharpen_2_0_W Sharpen_2_0_H Sharpen_2_0_P Sharpen_2_1_0 (fun (out_P2, i2) =>
  some (q_W, q_H, out_P2, 0)) N (l2, 0))

def D_tone_Sharpen (N : Nat) (q_W : Int) (q_H : Int) (q_P : List (Int × Int × Int)) (amount : Int) : Option (Int × Int × List (Int × Int × Int) × Int) :=
  Option.bind (D_tone_each__tone_Sharpen_2 N q_W q_H q_P q_W q_H q_P amount) fun r2 =>
  cond (decide (r2.2.2.2 = 0)) (
  cond (decide (amount < 0)) (
  some (0, 0, ([] : List (Int × Int × Int)), 3)) (
  cond (decide (1024 < amount)) (
  some (0, 0, ([] : List (Int × Int × Int)), 3)) (
  some (r2.1, r2.2.1, r2.2.2.1, r2.2.2.2)))) (
  some (r2.1, r2.2.1, r2.2.2.1, r2.2.2.2))

def D_darkslideref_within (N : Nat) (n : Int) (low : Int) (high : Int) : Option Bool :=
  cond (decide (low ≤ n)) (
  some (decide (n ≤ high))) (
  some false)

def D_darkslideref_PictureFine_l1 (N : Nat) (q_P : List (Int × Int × Int)) (kk : Int → Option Bool) : Nat → Int → Option Bool
  | 0, _ => none
  | fuel + 1, i =>
    cond (decide (i < (q_P.length : Int))) (
    Option.bind (idx q_P i) fun e4 =>
    Option.bind (D_darkslideref_within N e4.1 0 65535) fun r7 =>
    cond (!(r7)) (
    some false) (
    Option.bind (idx q_P i) fun e5 =>
    Option.bind (D_darkslideref_within N e5.2.1 0 65535) fun r8 =>
    cond (!(r8)) (
    some false) (
    Option.bind (idx q_P i) fun e6 =>
    Option.bind (D_darkslideref_within N e6.2.2 0 65535) fun r9 =>
    cond (!(r9)) (
    some false) (
    Option.bind (some (IntKind.i64.wrap (i + 1))) fun i3 =>
    D_darkslideref_PictureFine_l1 N q_P kk fuel i3)))) (
    kk i)

def D_darkslideref_PictureFine (N : Nat) (q_W : Int) (q_H : Int) (q_P : List (Int × Int × Int)) : Option Bool :=
  Option.bind (D_darkslideref_within N q_W 1 64) fun r2 =>
  cond (!(r2)) (
  some false) (
  Option.bind (D_darkslideref_within N q_H 1 64) fun r3 =>
  cond (!(r3)) (
  some false) (
  cond (!decide ((q_P.length : Int) = (IntKind.i64.wrap (q_W * q_H)))) (
  some false) (
  D_darkslideref_PictureFine_l1 N q_P (fun i4 =>
  some true) N 0)))

def D_tone_Mix_1 (N : Nat) (c_R : Int) (c_G : Int) (c_B : Int) (k : Int) (v00 : Int) (v01 : Int) (v02 : Int) (v03 : Int) (v04 : Int) (v05 : Int) (v06 : Int) (v07 : Int) (v08 : Int) : Option Int :=
  Option.bind (inr k 9) fun _ =>
  Option.bind (idx [v00, v01, v02, v03, v04, v05, v06, v07, v08] k) fun e =>
  Option.bind (inr (IntKind.i64.wrap (k + 1)) 9) fun _ =>
  Option.bind (idx [v00, v01, v02, v03, v04, v05, v06, v07, v08] (IntKind.i64.wrap (k + 1))) fun e2 =>
  Option.bind (inr (IntKind.i64.wrap (k + 2)) 9) fun _ =>
  Option.bind (idx [v00, v01, v02, v03, v04, v05, v06, v07, v08] (IntKind.i64.wrap (k + 2))) fun e3 =>
  Option.bind (D_tone_clamp N (shrI .i64 (IntKind.i64.wrap ((IntKind.i64.wrap ((IntKind.i64.wrap (e * c_R)) + (IntKind.i64.wrap (e2 * c_G)))) + (IntKind.i64.wrap (e3 * c_B)))) 12)) fun r2 =>
  some r2

def D_tone_Mix_2 (N : Nat) (c_R : Int) (c_G : Int) (c_B : Int) (x2 : Int) (y : Int) (v0_00 : Int) (v0_01 : Int) (v0_02 : Int) (v0_03 : Int) (v0_04 : Int) (v0_05 : Int) (v0_06 : Int) (v0_07 : Int) (v0_08 : Int) : Option (Int × Int × Int) :=
  Option.bind (D_tone_Mix_1 N c_R c_G c_B 0 v0_00 v0_01 v0_02 v0_03 v0_04 v0_05 v0_06 v0_07 v0_08) fun r2 =>
  Option.bind (D_tone_Mix_1 N c_R c_G c_B 3 v0_00 v0_01 v0_02 v0_03 v0_04 v0_05 v0_06 v0_07 v0_08) fun r3 =>
  Option.bind (D_tone_Mix_1 N c_R c_G c_B 6 v0_00 v0_01 v0_02 v0_03 v0_04 v0_05 v0_06 v0_07 v0_08) fun r4 =>
  some (r2, r3, r4)

def D_tone_each__tone_Mix_2_l1 (N : Nat) (q_W : Int) (q_P : List (Int × Int × Int)) (Mix_2_0_00 : Int) (Mix_2_0_01 : Int) (Mix_2_0_02 : Int) (Mix_2_0_03 : Int) (Mix_2_0_04 : Int) (Mix_2_0_05 : Int) (Mix_2_0_06 : Int) (Mix_2_0_07 : Int) (Mix_2_0_08 : Int) (kk : (List (Int × Int × Int) × Int) → Option (Int × Int × List (Int × Int × Int) × Int)) : Nat → (List (Int × Int × Int) × Int) → Option (Int × Int × List (Int × Int × Int) × Int)
  | 0, _ => none
  | fuel + 1, (out_P, i) =>
    cond (decide (i < (q_P.length : Int))) (
    Option.bind (idx q_P i) fun e3 =>
    Option.bind (nz q_W) fun _ =>
    Option.bind (nz q_W) fun _ =>
    Option.bind (D_tone_Mix_2 N e3.1 e3.2.1 e3.2.2 (Int.tmod i q_W) (IntKind.i64.wrap (Int.tdiv i q_W)) Mix_2_0_00 Mix_2_0_01 Mix_2_0_02 Mix_2_0_03 Mix_2_0_04 Mix_2_0_05 Mix_2_0_06 Mix_2_0_07 Mix_2_0_08) fun r4 =>
    Option.bind (idx out_P i) fun e4 =>
    Option.bind (setL out_P i (r4.1, r4.2.1, r4.2.2)) fun l4 =>
    D_tone_each__tone_Mix_2_l1 N q_W q_P Mix_2_0_00 Mix_2_0_01 Mix_2_0_02 Mix_2_0_03 Mix_2_0_04 Mix_2_0_05 Mix_2_0_06 Mix_2_0_07 Mix_2_0_08 kk fuel (l4, IntKind.i64.wrap (i + 1))) (
    kk (out_P, i))

def D_tone_each__tone_Mix_2 (N : Nat) (q_W : Int) (q_H : Int) (q_P : List (Int × Int × Int)) (Mix_2_0_00 : Int) (Mix_2_0_01 : Int) (Mix_2_0_02 : Int) (Mix_2_0_03 : Int) (Mix_2_0_04 : Int) (Mix_2_0_05 : Int) (Mix_2_0_06 : Int) (Mix_2_0_07 : Int) (Mix_2_0_08 : Int) : Option (Int × Int × List (Int × Int × Int) × Int) :=
  Option.bind (D_mosaic_Take N q_W q_H q_P 0) fun r2 =>
  cond (!decide (r2.2.2.2 = 0)) (
  some (0, 0, ([] : List (Int × Int × Int)), r2.2.2.2)) (
  Option.bind (some ((q_P.length : Int))) fun x2 =>
  Option.bind (mk 24 x2 ((0, 0, 0) : Int × Int × Int)) fun l2 =>
  D_tone_each__tone_Mix_2_l1 N q_W q_P Mix_2_0_00 Mix_2_0_01 Mix_2_0_02 Mix_2_0_03 Mix_2_0_04 Mix_2_0_05 Mix_2_0_06 Mix_2_0_07 Mix_2_0_08 (fun (out_P2, i2) =>
  some (q_W, q_H, out_P2, 0)) N (l2, 0))

def D_tone_Mix_l1 (N : Nat) (m0 : Int) (m1 : Int) (m2 : Int) (m3 : Int) (m4 : Int) (m5 : Int) (m6 : Int) (m7 : Int) (m8 : Int) (kk : (Bool × Int) → Option (Int × Int × List (Int × Int × Int) × Int)) : Nat → (Bool × Int) → Option (Int × Int × List (Int × Int × Int) × Int)
  | 0, _ => none
  | fuel + 1, (fine, i) =>
    cond (decide (i < 9)) (
    Option.bind (idx [m0, m1, m2, m3, m4, m5, m6, m7, m8] i) fun e2 =>
    cond (fine) (
    cond (decide ((-32768) ≤ e2)) (
    D_tone_Mix_l1 N m0 m1 m2 m3 m4 m5 m6 m7 m8 kk fuel (decide (e2 ≤ 32768), IntKind.i64.wrap (i + 1))) (
    D_tone_Mix_l1 N m0 m1 m2 m3 m4 m5 m6 m7 m8 kk fuel (false, IntKind.i64.wrap (i + 1)))) (
    D_tone_Mix_l1 N m0 m1 m2 m3 m4 m5 m6 m7 m8 kk fuel (false, IntKind.i64.wrap (i + 1)))) (
    kk (fine, i))

def D_tone_Mix (N : Nat) (q_W : Int) (q_H : Int) (q_P : List (Int × Int × Int)) (m0 : Int) (m1 : Int) (m2 : Int) (m3 : Int) (m4 : Int) (m5 : Int) (m6 : Int) (m7 : Int) (m8 : Int) : Option (Int × Int × List (Int × Int × Int) × Int) :=
  D_tone_Mix_l1 N m0 m1 m2 m3 m4 m5 m6 m7 m8 (fun (fine2, i2) =>
  Option.bind (D_tone_each__tone_Mix_2 N q_W q_H q_P m0 m1 m2 m3 m4 m5 m6 m7 m8) fun r2 =>
  cond (decide (r2.2.2.2 = 0)) (
  cond (!(fine2)) (
  some (0, 0, ([] : List (Int × Int × Int)), 3)) (
  some (r2.1, r2.2.1, r2.2.2.1, r2.2.2.2))) (
  some (r2.1, r2.2.1, r2.2.2.1, r2.2.2.2))) N (true, 0)

def D_tone_right_l1 (N : Nat) (d : List (Int × Int)) (l2 : List (Int × Int)) (kk : Int → Option Bool) : Nat → Int → Option Bool
  | 0, _ => none
  | fuel + 1, i =>
    cond (decide (i < (l2.length : Int))) (
    Option.bind (idx d i) fun e9 =>
    Option.bind (idx d (IntKind.i64.wrap (i + 1))) fun e10 =>
    cond (decide (e10.1 ≤ e9.1)) (
    some false) (
    Option.bind (idx d i) fun e11 =>
    Option.bind (idx d (IntKind.i64.wrap (i + 1))) fun e12 =>
    cond (decide (e12.2 < e11.2)) (
    some false) (
    D_tone_right_l1 N d l2 kk fuel (IntKind.i64.wrap (i + 1))))) (
    kk i)

def D_tone_right (N : Nat) (d : List (Int × Int)) : Option Bool :=
  cond (decide ((d.length : Int) < 2)) (
  some false) (
  cond (decide (16 < (d.length : Int))) (
  some false) (
  Option.bind (idx d 0) fun e =>
  cond (!decide (e.1 = 0)) (
  some false) (
  Option.bind (idx d (IntKind.i64.wrap ((d.length : Int) - 1))) fun e2 =>
  cond (!decide (e2.1 = 65535)) (
  some false) (
  Option.bind (idx d 0) fun e3 =>
  cond (decide (e3.2 < 0)) (
  some false) (
  Option.bind (idx d (IntKind.i64.wrap ((d.length : Int) - 1))) fun e4 =>
  cond (decide (65535 < e4.2)) (
  some false) (
  Option.bind (sli d 1 (d.length : Int)) fun l2 =>
  D_tone_right_l1 N d l2 (fun i2 =>
  some true) N 0))))))

def D_tone_on_1 (N : Nat) (i : Int) (v0 : List (Int × Int)) (v1 : Int) : Option Bool :=
  Option.bind (idx v0 i) fun e =>
  some (decide (v1 < e.1))

def D_sort_Search__tone_on_1_l1 (N : Nat) (on_1_0 : List (Int × Int)) (on_1_1 : Int) (kk : (Int × Int) → Option Int) : Nat → (Int × Int) → Option Int
  | 0, _ => none
  | fuel + 1, (i, j) =>
    cond (decide (i < j)) (
    Option.bind (some (IntKind.i64.wrap (shrI .u64 (IntKind.u64.wrap (IntKind.i64.wrap (i + j))) 1))) fun h3 =>
    Option.bind (D_tone_on_1 N h3 on_1_0 on_1_1) fun r3 =>
    cond (!(r3)) (
    Option.bind (some (IntKind.i64.wrap (h3 + 1))) fun i3 =>
    D_sort_Search__tone_on_1_l1 N on_1_0 on_1_1 kk fuel (i3, j)) (
    D_sort_Search__tone_on_1_l1 N on_1_0 on_1_1 kk fuel (i, h3))) (
    kk (i, j))

def D_sort_Search__tone_on_1 (N : Nat) (n : Int) (on_1_0 : List (Int × Int)) (on_1_1 : Int) : Option Int :=
  D_sort_Search__tone_on_1_l1 N on_1_0 on_1_1 (fun (i4, j2) =>
  some i4) N (0, n)

def D_tone_on (N : Nat) (l2 : List (Int × Int)) (x2 : Int) : Option Int :=
  Option.bind (D_sort_Search__tone_on_1 N (l2.length : Int) l2 x2) fun r2 =>
  cond (decide (r2 = (l2.length : Int))) (
  Option.bind (idx l2 (IntKind.i64.wrap (r2 - 1))) fun e =>
  some e.2) (
  Option.bind (idx l2 (IntKind.i64.wrap (r2 - 1))) fun e2 =>
  Option.bind (idx l2 r2) fun e3 =>
  Option.bind (nz (IntKind.i64.wrap (e3.1 - e2.1))) fun _ =>
  Option.bind (some (IntKind.i64.wrap (e2.2 + (IntKind.i64.wrap (Int.tdiv (IntKind.i64.wrap ((IntKind.i64.wrap (e3.2 - e2.2)) * (IntKind.i64.wrap (x2 - e2.1)))) (IntKind.i64.wrap (e3.1 - e2.1))))))) fun x3 =>
  some x3)

def D_tone_Curve (N : Nat) (l2 : List (Int × Int)) (x2 : Int) : Option (Int × Int) :=
  Option.bind (D_tone_right N l2) fun r2 =>
  cond (!(r2)) (
  some (0, 1)) (
  cond (decide (x2 < 0)) (
  some (0, 3)) (
  cond (decide (65535 < x2)) (
  some (0, 3)) (
  Option.bind (D_tone_on N l2 x2) fun r3 =>
  some (r3, 0))))

def D_darkslidelaw_line2 (N : Nat)  : Option (List (Int × Int)) :=
  some (([(0, 0), (65535, 65535)] : List (Int × Int)))

def D_tone_Bend_1 (N : Nat) (c_R : Int) (c_G : Int) (c_B : Int) (x2 : Int) (y : Int) (v0 : List (Int × Int)) : Option (Int × Int × Int) :=
  Option.bind (D_tone_on N v0 c_R) fun r2 =>
  Option.bind (D_tone_on N v0 c_G) fun r3 =>
  Option.bind (D_tone_on N v0 c_B) fun r4 =>
  some (r2, r3, r4)

def D_tone_each__tone_Bend_1_l1 (N : Nat) (q_W : Int) (q_P : List (Int × Int × Int)) (Bend_1_0 : List (Int × Int)) (kk : (List (Int × Int × Int) × Int) → Option (Int × Int × List (Int × Int × Int) × Int)) : Nat → (List (Int × Int × Int) × Int) → Option (Int × Int × List (Int × Int × Int) × Int)
  | 0, _ => none
  | fuel + 1, (out_P, i) =>
    cond (decide (i < (q_P.length : Int))) (
    Option.bind (idx q_P i) fun e3 =>
    Option.bind (nz q_W) fun _ =>
    Option.bind (nz q_W) fun _ =>
    Option.bind (D_tone_Bend_1 N e3.1 e3.2.1 e3.2.2 (Int.tmod i q_W) (IntKind.i64.wrap (Int.tdiv i q_W)) Bend_1_0) fun r4 =>
    Option.bind (idx out_P i) fun e4 =>
    Option.bind (setL out_P i (r4.1, r4.2.1, r4.2.2)) fun l4 =>
    D_tone_each__tone_Bend_1_l1 N q_W q_P Bend_1_0 kk fuel (l4, IntKind.i64.wrap (i + 1))) (
    kk (out_P, i))

def D_tone_each__tone_Bend_1 (N : Nat) (q_W : Int) (q_H : Int) (q_P : List (Int × Int × Int)) (Bend_1_0 : List (Int × Int)) : Option (Int × Int × List (Int × Int × Int) × Int) :=
  Option.bind (D_mosaic_Take N q_W q_H q_P 0) fun r2 =>
  cond (!decide (r2.2.2.2 = 0)) (
  some (0, 0, ([] : List (Int × Int × Int)), r2.2.2.2)) (
  Option.bind (some ((q_P.length : Int))) fun x2 =>
  Option.bind (mk 24 x2 ((0, 0, 0) : Int × Int × Int)) fun l2 =>
  D_tone_each__tone_Bend_1_l1 N q_W q_P Bend_1_0 (fun (out_P2, i2) =>
  some (q_W, q_H, out_P2, 0)) N (l2, 0))

def D_tone_Bend (N : Nat) (q_W : Int) (q_H : Int) (q_P : List (Int × Int × Int)) (l2 : List (Int × Int)) : Option (Int × Int × List (Int × Int × Int) × Int) :=
  Option.bind (D_tone_right N l2) fun r2 =>
  cond (!(r2)) (
  some (0, 0, ([] : List (Int × Int × Int)), 1)) (
  Option.bind (D_tone_each__tone_Bend_1 N q_W q_H q_P l2) fun r3 =>
  some (r3.1, r3.2.1, r3.2.2.1, r3.2.2.2))

def D_darkslideref_SamePictures_l1 (N : Nat) (a_P : List (Int × Int × Int)) (b_P : List (Int × Int × Int)) (kk : Int → Option Bool) : Nat → Int → Option Bool
  | 0, _ => none
  | fuel + 1, i =>
    cond (decide (i < (a_P.length : Int))) (
    Option.bind (idx a_P i) fun e3 =>
    Option.bind (idx b_P i) fun e4 =>
    cond (!(decide (e3.1 = e4.1) && decide (e3.2.1 = e4.2.1) && decide (e3.2.2 = e4.2.2))) (
    some false) (
    Option.bind (some (IntKind.i64.wrap (i + 1))) fun i3 =>
    D_darkslideref_SamePictures_l1 N a_P b_P kk fuel i3)) (
    kk i)

def D_darkslideref_SamePictures (N : Nat) (a_W : Int) (a_H : Int) (a_P : List (Int × Int × Int)) (b_W : Int) (b_H : Int) (b_P : List (Int × Int × Int)) : Option Bool :=
  cond (!decide (a_W = b_W)) (
  some false) (
  cond (!decide (a_H = b_H)) (
  some false) (
  cond (!decide ((a_P.length : Int) = (b_P.length : Int))) (
  some false) (
  D_darkslideref_SamePictures_l1 N a_P b_P (fun i4 =>
  some true) N 0)))

def D_darkslidelaw_toneBegun (N : Nat)  : Option Bool :=
  Option.bind (D_tone_Mix N 1 1 (([(100, 200, 300)] : List (Int × Int × Int))) 4096 0 0 0 8192 0 0 0 (-1)) fun r2 =>
  Option.bind (D_tone_Curve N (([(0, 0), (10, 5), (65535, 5)] : List (Int × Int))) 5) fun r3 =>
  Option.bind (D_darkslidelaw_line2 N ) fun r4 =>
  Option.bind (D_tone_Bend N 1 1 (([(100, 200, 300)] : List (Int × Int × Int))) r4) fun r5 =>
  Option.bind (D_tone_Sharpen N 2 1 (([(0, 0, 0), (160, 0, 0)] : List (Int × Int × Int))) 256) fun r6 =>
  cond (decide (r2.2.2.2 = 0)) (
  cond (decide (r3.2 = 0)) (
  cond (decide (r5.2.2.2 = 0)) (
  cond (decide (r6.2.2.2 = 0)) (
  cond (decide ((r2.2.2.1.length : Int) = 1)) (
  Option.bind (idx r2.2.2.1 0) fun e =>
  cond (decide (e.1 = 100) && decide (e.2.1 = 400) && decide (e.2.2 = 0)) (
  cond (decide (r3.1 = 2)) (
  Option.bind (D_darkslideref_SamePictures N r5.1 r5.2.1 r5.2.2.1 1 1 (([(100, 200, 300)] : List (Int × Int × Int)))) fun r7 =>
  cond (r7) (
  cond (decide ((r6.2.2.1.length : Int) = 2)) (
  Option.bind (idx r6.2.2.1 1) fun e2 =>
  some (decide (e2.1 = 200))) (
  some false)) (
  some false)) (
  some false)) (
  some false)) (
  some false)) (
  some false)) (
  some false)) (
  some false)) (
  some false)

def D_darkslideref_parts (N : Nat) (c_R : Int) (c_G : Int) (c_B : Int) : Option (Int × Int × Int) :=
  some (c_R, c_G, c_B)

def D_darkslideref_down (N : Nat) (n : Int) (by2 : Int) : Option Int :=
  Option.bind (nz by2) fun _ =>
  Option.bind (some (IntKind.i64.wrap (Int.tdiv n by2))) fun q =>
  cond (decide (n < (IntKind.i64.wrap (q * by2)))) (
  Option.bind (some (IntKind.i64.wrap (q - 1))) fun q2 =>
  some q2) (
  some q)

def D_darkslideref_clamp (N : Nat) (n : Int) : Option Int :=
  some (max 0 (min n 65535))

def D_darkslideref_pixel (N : Nat) (l0 : Int) (l1 : Int) (l2 : Int) : Option (Int × Int × Int) :=
  some (l0, l1, l2)

def D_darkslideref_Sharp_l5 (N : Nat) (i12 : Int) (i15 : Int) (r23 : Int × Int × Int) (kk : (Int × Int × Int × Int) → Option (Int × Int × List (Int × Int × Int))) : Nat → (Int × Int × Int × Int) → Option (Int × Int × List (Int × Int × Int))
  | 0, _ => none
  | fuel + 1, (x014, x117, x216, i17) =>
    cond (decide (i17 < 3)) (
    cond (decide (i17 = 0)) (
    Option.bind (inr i17 3) fun _ =>
    Option.bind (idx [r23.1, r23.2.1, r23.2.2] i17) fun e58 =>
    Option.bind (inr (IntKind.i64.wrap (i15 + 1)) 3) fun _ =>
    Option.bind (idx [1, 2, 1] (IntKind.i64.wrap (i15 + 1))) fun e59 =>
    Option.bind (inr (IntKind.i64.wrap (i12 + 1)) 3) fun _ =>
    Option.bind (idx [1, 2, 1] (IntKind.i64.wrap (i12 + 1))) fun e60 =>
    Option.bind (some (IntKind.i64.wrap (i17 + 1))) fun x50 =>
    D_darkslideref_Sharp_l5 N i12 i15 r23 kk fuel (IntKind.i64.wrap (x014 + (IntKind.i64.wrap ((IntKind.i64.wrap (e58 * e59)) * e60))), x117, x216, x50)) (
    cond (decide (i17 = 1)) (
    Option.bind (inr i17 3) fun _ =>
    Option.bind (idx [r23.1, r23.2.1, r23.2.2] i17) fun e61 =>
    Option.bind (inr (IntKind.i64.wrap (i15 + 1)) 3) fun _ =>
    Option.bind (idx [1, 2, 1] (IntKind.i64.wrap (i15 + 1))) fun e62 =>
    Option.bind (inr (IntKind.i64.wrap (i12 + 1)) 3) fun _ =>
    Option.bind (idx [1, 2, 1] (IntKind.i64.wrap (i12 + 1))) fun e63 =>
    Option.bind (some (IntKind.i64.wrap (i17 + 1))) fun x51 =>
    D_darkslideref_Sharp_l5 N i12 i15 r23 kk fuel (x014, IntKind.i64.wrap (x117 + (IntKind.i64.wrap ((IntKind.i64.wrap (e61 * e62)) * e63))), x216, x51)) (
    cond (decide (i17 = 2)) (
    Option.bind (inr i17 3) fun _ =>
    Option.bind (idx [r23.1, r23.2.1, r23.2.2] i17) fun e64 =>
    Option.bind (inr (IntKind.i64.wrap (i15 + 1)) 3) fun _ =>
    Option.bind (idx [1, 2, 1] (IntKind.i64.wrap (i15 + 1))) fun e65 =>
    Option.bind (inr (IntKind.i64.wrap (i12 + 1)) 3) fun _ =>
    Option.bind (idx [1, 2, 1] (IntKind.i64.wrap (i12 + 1))) fun e66 =>
    Option.bind (some (IntKind.i64.wrap (i17 + 1))) fun x52 =>
    D_darkslideref_Sharp_l5 N i12 i15 r23 kk fuel (x014, x117, IntKind.i64.wrap (x216 + (IntKind.i64.wrap ((IntKind.i64.wrap (e64 * e65)) * e66))), x52)) (
    none)))) (
    kk (x014, x117, x216, i17))

def D_darkslideref_Sharp_l4 (N : Nat) (d_W : Int) (d_H : Int) (d_P : List (Int × Int × Int)) (i : Int) (i7 : Int) (i12 : Int) (kk : (Int × Int × Int × Int) → Option (Int × Int × List (Int × Int × Int))) : Nat → (Int × Int × Int × Int) → Option (Int × Int × List (Int × Int × Int))
  | 0, _ => none
  | fuel + 1, (x012, x115, x214, i15) =>
    cond (decide (i15 ≤ 1)) (
    Option.bind (some (IntKind.i64.wrap ((IntKind.i64.wrap ((max 0 (min (IntKind.i64.wrap (d_H - 1)) (IntKind.i64.wrap (i + i12)))) * d_W)) + (max 0 (min (IntKind.i64.wrap (d_W - 1)) (IntKind.i64.wrap (i7 + i15))))))) fun x46 =>
    Option.bind (idx d_P x46) fun e48 =>
    Option.bind (D_darkslideref_parts N e48.1 e48.2.1 e48.2.2) fun r23 =>
    D_darkslideref_Sharp_l5 N i12 i15 r23 (fun (x015, x118, x217, i18) =>
    Option.bind (some (IntKind.i64.wrap (i15 + 1))) fun x53 =>
    D_darkslideref_Sharp_l4 N d_W d_H d_P i i7 i12 kk fuel (x015, x118, x217, x53)) N (x012, x115, x214, 0)) (
    kk (x012, x115, x214, i15))

def D_darkslideref_Sharp_l6 (N : Nat) (o : Int) (r20 : Int × Int × Int) (x017 : Int) (x120 : Int) (x219 : Int) (kk : (Int × Int × Int × Int) → Option (Int × Int × List (Int × Int × Int))) : Nat → (Int × Int × Int × Int) → Option (Int × Int × List (Int × Int × Int))
  | 0, _ => none
  | fuel + 1, (x018, x121, x220, i21) =>
    cond (decide (i21 < 3)) (
    Option.bind (inr i21 3) fun _ =>
    Option.bind (idx [r20.1, r20.2.1, r20.2.2] i21) fun e69 =>
    Option.bind (inr i21 3) fun _ =>
    Option.bind (idx [r20.1, r20.2.1, r20.2.2] i21) fun e70 =>
    cond (decide (i21 = 0)) (
    Option.bind (D_darkslideref_down N (IntKind.i64.wrap ((IntKind.i64.wrap (e70 - (IntKind.i64.wrap (Int.tdiv x017 16)))) * o)) 256) fun r30 =>
    Option.bind (D_darkslideref_clamp N (IntKind.i64.wrap (e69 + r30))) fun r31 =>
    Option.bind (some (IntKind.i64.wrap (i21 + 1))) fun x58 =>
    D_darkslideref_Sharp_l6 N o r20 x017 x120 x219 kk fuel (r31, x121, x220, x58)) (
    cond (decide (i21 = 1)) (
    Option.bind (D_darkslideref_down N (IntKind.i64.wrap ((IntKind.i64.wrap (e70 - (IntKind.i64.wrap (Int.tdiv x120 16)))) * o)) 256) fun r32 =>
    Option.bind (D_darkslideref_clamp N (IntKind.i64.wrap (e69 + r32))) fun r33 =>
    Option.bind (some (IntKind.i64.wrap (i21 + 1))) fun x59 =>
    D_darkslideref_Sharp_l6 N o r20 x017 x120 x219 kk fuel (x018, r33, x220, x59)) (
    cond (decide (i21 = 2)) (
    Option.bind (D_darkslideref_down N (IntKind.i64.wrap ((IntKind.i64.wrap (e70 - (IntKind.i64.wrap (Int.tdiv x219 16)))) * o)) 256) fun r34 =>
    Option.bind (D_darkslideref_clamp N (IntKind.i64.wrap (e69 + r34))) fun r35 =>
    Option.bind (some (IntKind.i64.wrap (i21 + 1))) fun x60 =>
    D_darkslideref_Sharp_l6 N o r20 x017 x120 x219 kk fuel (x018, x121, r35, x60)) (
    none)))) (
    kk (x018, x121, x220, i21))

def D_darkslideref_Sharp_l3 (N : Nat) (d_W : Int) (d_H : Int) (d_P : List (Int × Int × Int)) (i : Int) (i7 : Int) (kk : (Int × Int × Int × Int) → Option (Int × Int × List (Int × Int × Int))) : Nat → (Int × Int × Int × Int) → Option (Int × Int × List (Int × Int × Int))
  | 0, _ => none
  | fuel + 1, (x09, x112, x211, i12) =>
    cond (decide (i12 ≤ 1)) (
    D_darkslideref_Sharp_l4 N d_W d_H d_P i i7 i12 (fun (x016, x119, x218, i19) =>
    Option.bind (some (IntKind.i64.wrap (i12 + 1))) fun x54 =>
    D_darkslideref_Sharp_l3 N d_W d_H d_P i i7 kk fuel (x016, x119, x218, x54)) N (x09, x112, x211, (-1))) (
    kk (x09, x112, x211, i12))

def D_darkslideref_Sharp_l2 (N : Nat) (d_W : Int) (d_H : Int) (d_P : List (Int × Int × Int)) (o : Int) (i : Int) (kk : (List (Int × Int × Int) × Int) → Option (Int × Int × List (Int × Int × Int))) : Nat → (List (Int × Int × Int) × Int) → Option (Int × Int × List (Int × Int × Int))
  | 0, _ => none
  | fuel + 1, (x_P4, i7) =>
    cond (decide (i7 < d_W)) (
    Option.bind (idx d_P (IntKind.i64.wrap ((IntKind.i64.wrap (i * d_W)) + i7))) fun e27 =>
    Option.bind (D_darkslideref_parts N e27.1 e27.2.1 e27.2.2) fun r20 =>
    D_darkslideref_Sharp_l3 N d_W d_H d_P i i7 (fun (x017, x120, x219, i20) =>
    D_darkslideref_Sharp_l6 N o r20 x017 x120 x219 (fun (x019, x122, x221, i22) =>
    Option.bind (D_darkslideref_pixel N x019 x122 x221) fun r36 =>
    Option.bind (app 24 x_P4 (([(r36.1, r36.2.1, r36.2.2)] : List (Int × Int × Int)))) fun x_P6 =>
    Option.bind (some (IntKind.i64.wrap (i7 + 1))) fun x61 =>
    D_darkslideref_Sharp_l2 N d_W d_H d_P o i kk fuel (x_P6, x61)) N (0, 0, 0, 0)) N (0, 0, 0, (-1))) (
    kk (x_P4, i7))

def D_darkslideref_Sharp_l1 (N : Nat) (d_W : Int) (d_H : Int) (d_P : List (Int × Int × Int)) (o : Int) (kk : (List (Int × Int × Int) × Int) → Option (Int × Int × List (Int × Int × Int))) : Nat → (List (Int × Int × Int) × Int) → Option (Int × Int × List (Int × Int × Int))
  | 0, _ => none
  | fuel + 1, (x_P, i) =>
    cond (decide (i < d_H)) (
    D_darkslideref_Sharp_l2 N d_W d_H d_P o i (fun (x_P7, i23) =>
    Option.bind (some (IntKind.i64.wrap (i + 1))) fun x62 =>
    D_darkslideref_Sharp_l1 N d_W d_H d_P o kk fuel (x_P7, x62)) N (x_P, 0)) (
    kk (x_P, i))

def D_darkslideref_Sharp (N : Nat) (d_W : Int) (d_H : Int) (d_P : List (Int × Int × Int)) (o : Int) : Option (Int × Int × List (Int × Int × Int)) :=
  D_darkslideref_Sharp_l1 N d_W d_H d_P o (fun (x_P8, i24) =>
  some (d_W, d_H, x_P8)) N (([] : List (Int × Int × Int)), 0)

def D_darkslidelaw_ToneSharpens (N : Nat) (q_W : Int) (q_H : Int) (q_P : List (Int × Int × Int)) (amount : Int) : Option Bool :=
  Option.bind (D_tone_Sharpen N q_W q_H q_P amount) fun r2 =>
  Option.bind (D_darkslideref_PictureFine N q_W q_H q_P) fun r3 =>
  cond (!(r3)) (
  Option.bind (D_darkslidelaw_toneBegun N ) fun r4 =>
  cond (r4) (
  cond (decide (r2.2.2.2 = 1)) (
  Option.bind (D_darkslideref_SamePictures N r2.1 r2.2.1 r2.2.2.1 0 0 (([] : List (Int × Int × Int)))) fun r5 =>
  some r5) (
  some false)) (
  some false)) (
  cond (decide (amount < 0)) (
  Option.bind (D_darkslidelaw_toneBegun N ) fun r6 =>
  cond (r6) (
  cond (decide (r2.2.2.2 = 3)) (
  Option.bind (D_darkslideref_SamePictures N r2.1 r2.2.1 r2.2.2.1 0 0 (([] : List (Int × Int × Int)))) fun r7 =>
  some r7) (
  some false)) (
  some false)) (
  cond (decide (1024 < amount)) (
  Option.bind (D_darkslidelaw_toneBegun N ) fun r8 =>
  cond (r8) (
  cond (decide (r2.2.2.2 = 3)) (
  Option.bind (D_darkslideref_SamePictures N r2.1 r2.2.1 r2.2.2.1 0 0 (([] : List (Int × Int × Int)))) fun r9 =>
  some r9) (
  some false)) (
  some false)) (
  Option.bind (D_darkslideref_Sharp N q_W q_H q_P amount) fun r10 =>
  Option.bind (D_darkslidelaw_toneBegun N ) fun r11 =>
  cond (r11) (
  cond (decide (r2.2.2.2 = 0)) (
  Option.bind (D_darkslideref_SamePictures N r2.1 r2.2.1 r2.2.2.1 r10.1 r10.2.1 r10.2.2) fun r12 =>
  some r12) (
  some false)) (
  some false))))

def D_darkslidelaw_ToneFlat_l1 (N : Nat) (d_R : Int) (d_G : Int) (d_B : Int) (o : Int) (p2 : Int) (kk : (List (Int × Int × Int) × Int) → Option Bool) : Nat → (List (Int × Int × Int) × Int) → Option Bool
  | 0, _ => none
  | fuel + 1, (x_P, i) =>
    cond (decide (i < (IntKind.i64.wrap (o * p2)))) (
    Option.bind (app 24 x_P (([(d_R, d_G, d_B)] : List (Int × Int × Int)))) fun x_P3 =>
    Option.bind (some (IntKind.i64.wrap (i + 1))) fun x3 =>
    D_darkslidelaw_ToneFlat_l1 N d_R d_G d_B o p2 kk fuel (x_P3, x3)) (
    kk (x_P, i))

def D_darkslidelaw_ToneFlat_l2 (N : Nat) (d_R : Int) (d_G : Int) (d_B : Int) (o : Int) (p2 : Int) (kk : (List (Int × Int × Int) × Int) → Option Bool) : Nat → (List (Int × Int × Int) × Int) → Option Bool
  | 0, _ => none
  | fuel + 1, (x_P5, i3) =>
    cond (decide (i3 < (IntKind.i64.wrap (o * p2)))) (
    Option.bind (app 24 x_P5 (([(d_R, d_G, d_B)] : List (Int × Int × Int)))) fun x_P7 =>
    Option.bind (some (IntKind.i64.wrap (i3 + 1))) fun x5 =>
    D_darkslidelaw_ToneFlat_l2 N d_R d_G d_B o p2 kk fuel (x_P7, x5)) (
    kk (x_P5, i3))

def D_darkslidelaw_ToneFlat (N : Nat) (d_R : Int) (d_G : Int) (d_B : Int) (o : Int) (p2 : Int) (p3 : Int) (p4_W : Int) (p4_H : Int) (p4_P : List (Int × Int × Int)) : Option Bool :=
  Option.bind (D_tone_Sharpen N p4_W p4_H p4_P 0) fun r2 =>
  cond (decide (r2.2.2.2 = 0)) (
  Option.bind (D_darkslideref_SamePictures N r2.1 r2.2.1 r2.2.2.1 p4_W p4_H p4_P) fun r3 =>
  cond (!(r3)) (
  some false) (
  cond (decide (o < 1)) (
  Option.bind (D_darkslidelaw_toneBegun N ) fun r4 =>
  some r4) (
  cond (decide (64 < o)) (
  Option.bind (D_darkslidelaw_toneBegun N ) fun r5 =>
  some r5) (
  cond (decide (p2 < 1)) (
  Option.bind (D_darkslidelaw_toneBegun N ) fun r6 =>
  some r6) (
  cond (decide (64 < p2)) (
  Option.bind (D_darkslidelaw_toneBegun N ) fun r7 =>
  some r7) (
  D_darkslidelaw_ToneFlat_l1 N d_R d_G d_B o p2 (fun (x_P4, i2) =>
  Option.bind (D_tone_Sharpen N o p2 x_P4 p3) fun r8 =>
  Option.bind (D_darkslidelaw_toneBegun N ) fun r9 =>
  cond (r9) (
  cond (!decide (r8.2.2.2 = 0)) (
  some true) (
  Option.bind (D_darkslideref_SamePictures N r8.1 r8.2.1 r8.2.2.1 o p2 x_P4) fun r10 =>
  some r10)) (
  some false)) N (([] : List (Int × Int × Int)), 0))))))) (
  cond (decide (o < 1)) (
  Option.bind (D_darkslidelaw_toneBegun N ) fun r11 =>
  some r11) (
  cond (decide (64 < o)) (
  Option.bind (D_darkslidelaw_toneBegun N ) fun r12 =>
  some r12) (
  cond (decide (p2 < 1)) (
  Option.bind (D_darkslidelaw_toneBegun N ) fun r13 =>
  some r13) (
  cond (decide (64 < p2)) (
  Option.bind (D_darkslidelaw_toneBegun N ) fun r14 =>
  some r14) (
  D_darkslidelaw_ToneFlat_l2 N d_R d_G d_B o p2 (fun (x_P8, i4) =>
  Option.bind (D_tone_Sharpen N o p2 x_P8 p3) fun r15 =>
  Option.bind (D_darkslidelaw_toneBegun N ) fun r16 =>
  cond (r16) (
  cond (!decide (r15.2.2.2 = 0)) (
  some true) (
  Option.bind (D_darkslideref_SamePictures N r15.1 r15.2.1 r15.2.2.1 o p2 x_P8) fun r17 =>
  some r17)) (
  some false)) N (([] : List (Int × Int × Int)), 0))))))

end Go.Proofs.Ytpmnfhifmmfglab
