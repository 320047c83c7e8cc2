/- Printed by a program (walk.py): what the functions compute, as plain programs. -/
import Derived.Test.YtpmnfhifmmfglaaDPix
import Derived.Test.YtpmnfhifmmfglaaDRep
set_option linter.unusedVariables false
set_option linter.unusedSimpArgs false
set_option linter.unusedSectionVars false
namespace Go.Proofs.Ytpmnfhifmmfglaa

def D_sensor_colour (N : Nat) (phase : Int) (x2 : Int) (y : Int) : Option Int :=
  some (IntKind.i64.wrap ((andI .i64 (IntKind.i64.wrap (x2 + phase)) 1) + (andI .i64 (IntKind.i64.wrap (y + (shrI .i64 phase 1))) 1)))

def D_sensor_Colour (N : Nat) (phase : Int) (x2 : Int) (y : Int) : Option (Int × Int) :=
  cond (decide (phase < 0)) (
  some (0, 3)) (
  cond (decide (3 < phase)) (
  some (0, 3)) (
  cond (decide (x2 < 0)) (
  some (0, 3)) (
  cond (decide (y < 0)) (
  some (0, 3)) (
  Option.bind (D_sensor_colour N phase (andI .i64 x2 1) (andI .i64 y 1)) fun r2 =>
  some (r2, 0)))))

def D_mosaic_pixel_b (N : Nat) (d_W : Int) (d_P : List Int) (o : Int) (u v : Int) (x_R : Int) (x_G : Int) (x_B : Int) (x_R2 : Int) (x_G2 : Int) (x_B2 : Int) : Option (Int × Int × Int × Int × Int × Int) :=
  Option.bind (D_sensor_Colour N o u v) fun r3 =>
  cond (decide (r3.1 = 0)) (
  Option.bind (idx d_P (IntKind.i64.wrap ((IntKind.i64.wrap (v * d_W)) + u))) fun e4 =>
  cond (decide (r3.1 = 0)) (
  some (IntKind.i64.wrap (x_R + 1), x_G, x_B, IntKind.i64.wrap (x_R2 + e4), x_G2, x_B2)) (
  cond (decide (r3.1 = 1)) (
  some (x_R, IntKind.i64.wrap (x_G + 1), x_B, IntKind.i64.wrap (x_R2 + e4), x_G2, x_B2)) (
  some (x_R, x_G, IntKind.i64.wrap (x_B + 1), IntKind.i64.wrap (x_R2 + e4), x_G2, x_B2)))) (
  cond (decide (r3.1 = 1)) (
  Option.bind (idx d_P (IntKind.i64.wrap ((IntKind.i64.wrap (v * d_W)) + u))) fun e5 =>
  cond (decide (r3.1 = 0)) (
  some (IntKind.i64.wrap (x_R + 1), x_G, x_B, x_R2, IntKind.i64.wrap (x_G2 + e5), x_B2)) (
  cond (decide (r3.1 = 1)) (
  some (x_R, IntKind.i64.wrap (x_G + 1), x_B, x_R2, IntKind.i64.wrap (x_G2 + e5), x_B2)) (
  some (x_R, x_G, IntKind.i64.wrap (x_B + 1), x_R2, IntKind.i64.wrap (x_G2 + e5), x_B2)))) (
  Option.bind (idx d_P (IntKind.i64.wrap ((IntKind.i64.wrap (v * d_W)) + u))) fun e6 =>
  cond (decide (r3.1 = 0)) (
  some (IntKind.i64.wrap (x_R + 1), x_G, x_B, x_R2, x_G2, IntKind.i64.wrap (x_B2 + e6))) (
  cond (decide (r3.1 = 1)) (
  some (x_R, IntKind.i64.wrap (x_G + 1), x_B, x_R2, x_G2, IntKind.i64.wrap (x_B2 + e6))) (
  some (x_R, x_G, IntKind.i64.wrap (x_B + 1), x_R2, x_G2, IntKind.i64.wrap (x_B2 + e6))))))

def D_mosaic_pixel_s (N : Nat) (d_W : Int) (d_P : List Int) (o : Int) (s : Int × Int × Int × Int × Int × Int) (q : Int × Int) : Int × Int × Int × Int × Int × Int := (D_mosaic_pixel_b N d_W d_P o q.1 q.2 s.1 s.2.1 s.2.2.1 s.2.2.2.1 s.2.2.2.2.1 s.2.2.2.2.2).getD s

theorem D_mosaic_pixel_fold {W H : Int} (N : Nat) (d_W : Int) (d_P : List Int) (o : Int) (pre : List (InP W H)) (q : InP W H) {s r : Int × Int × Int × Int × Int × Int} (hs : List.foldl (D_mosaic_pixel_s N d_W d_P o) (0, 0, 0, 0, 0, 0) (pre.map (·.1)) = s) (hr : D_mosaic_pixel_b N d_W d_P o q.1.1 q.1.2 s.1 s.2.1 s.2.2.1 s.2.2.2.1 s.2.2.2.2.1 s.2.2.2.2.2 = some r) : List.foldl (D_mosaic_pixel_s N d_W d_P o) (0, 0, 0, 0, 0, 0) ((pre ++ [q]).map (·.1)) = r := by
  rw [List.map_append, List.foldl_append, hs]
  show (D_mosaic_pixel_b N d_W d_P o q.1.1 q.1.2 s.1 s.2.1 s.2.2.1 s.2.2.2.1 s.2.2.2.2.1 s.2.2.2.2.2).getD s = r
  rw [hr]; rfl

def D_mosaic_pixel_l1 (N : Nat) (x_R : Int) (x_G : Int) (x_B : Int) (kk : (Int × Int × Int × Int) → Option (Int × Int × Int)) : Nat → (Int × Int × Int × Int) → Option (Int × Int × Int)
  | 0, _ => none
  | fuel + 1, (x_R3, x_G3, x_B3, i) =>
    cond (decide (i < 3)) (
    cond (decide (i = 0)) (
    cond (decide (0 < x_R)) (
    cond (decide (i = 0)) (
    Option.bind (nz x_R) fun _ =>
    D_mosaic_pixel_l1 N x_R x_G x_B kk fuel (IntKind.i64.wrap (Int.tdiv x_R3 x_R), x_G3, x_B3, IntKind.i64.wrap (i + 1))) (
    cond (decide (i = 1)) (
    Option.bind (nz x_R) fun _ =>
    D_mosaic_pixel_l1 N x_R x_G x_B kk fuel (x_R3, IntKind.i64.wrap (Int.tdiv x_G3 x_R), x_B3, IntKind.i64.wrap (i + 1))) (
    Option.bind (nz x_R) fun _ =>
    D_mosaic_pixel_l1 N x_R x_G x_B kk fuel (x_R3, x_G3, IntKind.i64.wrap (Int.tdiv x_B3 x_R), IntKind.i64.wrap (i + 1))))) (
    D_mosaic_pixel_l1 N x_R x_G x_B kk fuel (x_R3, x_G3, x_B3, IntKind.i64.wrap (i + 1)))) (
    cond (decide (i = 1)) (
    cond (decide (0 < x_G)) (
    cond (decide (i = 0)) (
    Option.bind (nz x_G) fun _ =>
    D_mosaic_pixel_l1 N x_R x_G x_B kk fuel (IntKind.i64.wrap (Int.tdiv x_R3 x_G), x_G3, x_B3, IntKind.i64.wrap (i + 1))) (
    cond (decide (i = 1)) (
    Option.bind (nz x_G) fun _ =>
    D_mosaic_pixel_l1 N x_R x_G x_B kk fuel (x_R3, IntKind.i64.wrap (Int.tdiv x_G3 x_G), x_B3, IntKind.i64.wrap (i + 1))) (
    Option.bind (nz x_G) fun _ =>
    D_mosaic_pixel_l1 N x_R x_G x_B kk fuel (x_R3, x_G3, IntKind.i64.wrap (Int.tdiv x_B3 x_G), IntKind.i64.wrap (i + 1))))) (
    D_mosaic_pixel_l1 N x_R x_G x_B kk fuel (x_R3, x_G3, x_B3, IntKind.i64.wrap (i + 1)))) (
    cond (decide (0 < x_B)) (
    cond (decide (i = 0)) (
    Option.bind (nz x_B) fun _ =>
    D_mosaic_pixel_l1 N x_R x_G x_B kk fuel (IntKind.i64.wrap (Int.tdiv x_R3 x_B), x_G3, x_B3, IntKind.i64.wrap (i + 1))) (
    cond (decide (i = 1)) (
    Option.bind (nz x_B) fun _ =>
    D_mosaic_pixel_l1 N x_R x_G x_B kk fuel (x_R3, IntKind.i64.wrap (Int.tdiv x_G3 x_B), x_B3, IntKind.i64.wrap (i + 1))) (
    Option.bind (nz x_B) fun _ =>
    D_mosaic_pixel_l1 N x_R x_G x_B kk fuel (x_R3, x_G3, IntKind.i64.wrap (Int.tdiv x_B3 x_B), IntKind.i64.wrap (i + 1))))) (
    D_mosaic_pixel_l1 N x_R x_G x_B kk fuel (x_R3, x_G3, x_B3, IntKind.i64.wrap (i + 1)))))) (
    kk (x_R3, x_G3, x_B3, i))

def D_mosaic_pixel_r (N : Nat) (d_W : Int) (d_P : List Int) (o : Int) (p2 : Int) (p3 : Int) : Int × Int × Int × Int × Int × Int → Option (Int × Int × Int)
  | (x_R, x_G, x_B, x_R2, x_G2, x_B2) =>
    D_mosaic_pixel_l1 N x_R x_G x_B (fun (x_R4, x_G4, x_B4, i2) =>
    Option.bind (D_sensor_Colour N o p2 p3) fun r4 =>
    cond (decide (r4.1 = 0)) (
    Option.bind (idx d_P (IntKind.i64.wrap ((IntKind.i64.wrap (p3 * d_W)) + p2))) fun e7 =>
    some (e7, x_G4, x_B4)) (
    cond (decide (r4.1 = 1)) (
    Option.bind (idx d_P (IntKind.i64.wrap ((IntKind.i64.wrap (p3 * d_W)) + p2))) fun e8 =>
    some (x_R4, e8, x_B4)) (
    Option.bind (idx d_P (IntKind.i64.wrap ((IntKind.i64.wrap (p3 * d_W)) + p2))) fun e9 =>
    some (x_R4, x_G4, e9)))) N (x_R2, x_G2, x_B2, 0)

def D_mosaic_pixel (N : Nat) (d_W : Int) (d_H : Int) (d_P : List Int) (o : Int) (p2 : Int) (p3 : Int) : Option (Int × Int × Int) :=
  cond (decide (pixC d_W d_H d_P p2 p3)) (D_mosaic_pixel_r N d_W d_P o p2 p3 (List.foldl (D_mosaic_pixel_s N d_W d_P o) (0, 0, 0, 0, 0, 0) (aroundL d_W d_H p2 p3))) none

def D_mosaic_Fill_l2 (N : Nat) (p_W : Int) (p_H : Int) (p_P : List Int) (phase : Int) (i : Int) (kk : (List (Int × Int × Int) × Int) → Option (Int × Int × List (Int × Int × Int) × Int)) : Nat → (List (Int × Int × Int) × Int) → Option (Int × Int × List (Int × Int × Int) × Int)
  | 0, _ => none
  | fuel + 1, (out_P4, i3) =>
    cond (decide (i3 < p_W)) (
    Option.bind (D_mosaic_pixel N p_W p_H p_P phase i3 i) fun r5 =>
    Option.bind (app 24 out_P4 (([(r5.1, r5.2.1, r5.2.2)] : List (Int × Int × Int)))) fun out_P6 =>
    D_mosaic_Fill_l2 N p_W p_H p_P phase i kk fuel (out_P6, IntKind.i64.wrap (i3 + 1))) (
    kk (out_P4, i3))

def D_mosaic_Fill_l1 (N : Nat) (p_W : Int) (p_H : Int) (p_P : List Int) (phase : Int) (kk : (List (Int × Int × Int) × Int) → Option (Int × Int × List (Int × Int × Int) × Int)) : Nat → (List (Int × Int × Int) × Int) → Option (Int × Int × List (Int × Int × Int) × Int)
  | 0, _ => none
  | fuel + 1, (out_P, i) =>
    cond (decide (i < p_H)) (
    D_mosaic_Fill_l2 N p_W p_H p_P phase i (fun (out_P7, i4) =>
    D_mosaic_Fill_l1 N p_W p_H p_P phase kk fuel (out_P7, IntKind.i64.wrap (i + 1))) N (out_P, 0)) (
    kk (out_P, i))

def D_mosaic_Fill (N : Nat) (p_W : Int) (p_H : Int) (p_P : List Int) (phase : Int) : Option (Int × Int × List (Int × Int × Int) × Int) :=
  Option.bind (D_sensor_Repair N p_W p_H p_P (([] : List (Int × Int)))) fun r2 =>
  cond (!decide (r2.2.2.2 = 0)) (
  some (0, 0, ([] : List (Int × Int × Int)), r2.2.2.2)) (
  cond (decide (phase < 0)) (
  some (0, 0, ([] : List (Int × Int × Int)), 3)) (
  cond (decide (3 < phase)) (
  some (0, 0, ([] : List (Int × Int × Int)), 3)) (
  D_mosaic_Fill_l1 N p_W p_H p_P phase (fun (out_P8, i5) =>
  some (p_W, p_H, out_P8, 0)) N (([] : List (Int × Int × Int)), 0))))

def D_mosaic_fine_l1 (N : Nat) (q_P : List (Int × Int × Int)) (kk : Int → Option Bool) : Nat → Int → Option Bool
  | 0, _ => none
  | fuel + 1, i =>
    cond (decide (i < (q_P.length : Int))) (
    Option.bind (idx q_P i) fun e2 =>
    cond (decide ((min (min e2.1 e2.2.1) e2.2.2) < 0)) (
    some false) (
    cond (decide (65535 < (max (max e2.1 e2.2.1) e2.2.2))) (
    some false) (
    D_mosaic_fine_l1 N q_P kk fuel (IntKind.i64.wrap (i + 1))))) (
    kk i)

def D_mosaic_fine (N : Nat) (q_W : Int) (q_H : Int) (q_P : List (Int × Int × Int)) : Option Bool :=
  cond (decide (q_W < 1)) (
  some false) (
  cond (decide (64 < q_W)) (
  some false) (
  cond (decide (q_H < 1)) (
  some false) (
  cond (decide (64 < q_H)) (
  some false) (
  cond (!decide ((q_P.length : Int) = (IntKind.i64.wrap (q_W * q_H)))) (
  some false) (
  D_mosaic_fine_l1 N q_P (fun i2 =>
  some true) N 0)))))

def D_mosaic_Take_l1 (N : Nat) (q_W : Int) (q_P : List (Int × Int × Int)) (phase : Int) (kk : (List Int × Int) → Option (Int × Int × List Int × Int)) : Nat → (List Int × Int) → Option (Int × Int × List Int × Int)
  | 0, _ => none
  | fuel + 1, (out_P, i) =>
    cond (decide (i < (q_P.length : Int))) (
    Option.bind (nz q_W) fun _ =>
    Option.bind (nz q_W) fun _ =>
    Option.bind (D_sensor_Colour N phase (Int.tmod i q_W) (IntKind.i64.wrap (Int.tdiv i q_W))) fun r4 =>
    Option.bind (idx q_P i) fun e2 =>
    cond (decide (r4.1 = 0)) (
    Option.bind (app 8 out_P ([e2.1] : List Int)) fun out_P5 =>
    D_mosaic_Take_l1 N q_W q_P phase kk fuel (out_P5, IntKind.i64.wrap (i + 1))) (
    cond (decide (r4.1 = 1)) (
    Option.bind (app 8 out_P ([e2.2.1] : List Int)) fun out_P6 =>
    D_mosaic_Take_l1 N q_W q_P phase kk fuel (out_P6, IntKind.i64.wrap (i + 1))) (
    Option.bind (app 8 out_P ([e2.2.2] : List Int)) fun out_P7 =>
    D_mosaic_Take_l1 N q_W q_P phase kk fuel (out_P7, IntKind.i64.wrap (i + 1))))) (
    kk (out_P, i))

def D_mosaic_Take (N : Nat) (q_W : Int) (q_H : Int) (q_P : List (Int × Int × Int)) (phase : Int) : Option (Int × Int × List Int × Int) :=
  Option.bind (D_mosaic_fine N q_W q_H q_P) fun r2 =>
  cond (!(r2)) (
  some (0, 0, ([] : List Int), 1)) (
  cond (decide (phase < 0)) (
  some (0, 0, ([] : List Int), 3)) (
  cond (decide (3 < phase)) (
  some (0, 0, ([] : List Int), 3)) (
  D_mosaic_Take_l1 N q_W q_P phase (fun (out_P8, i2) =>
  some (q_W, q_H, out_P8, 0)) N (([] : List Int), 0))))

def D_darkslideref_within (N : Nat) (n : Int) (low : Int) (high : Int) : Option Bool :=
  cond (decide (low ≤ n)) (
  some (decide (n ≤ high))) (
  some false)

def D_darkslideref_PlaneFine_l1 (N : Nat) (p_P : List Int) (kk : Int → Option Bool) : Nat → Int → Option Bool
  | 0, _ => none
  | fuel + 1, i =>
    cond (decide (i < (p_P.length : Int))) (
    Option.bind (idx p_P i) fun e2 =>
    Option.bind (D_darkslideref_within N e2 0 65535) fun r5 =>
    cond (!(r5)) (
    some false) (
    Option.bind (some (IntKind.i64.wrap (i + 1))) fun i3 =>
    D_darkslideref_PlaneFine_l1 N p_P kk fuel i3)) (
    kk i)

def D_darkslideref_PlaneFine (N : Nat) (p_W : Int) (p_H : Int) (p_P : List Int) : Option Bool :=
  Option.bind (D_darkslideref_within N p_W 1 64) fun r2 =>
  cond (!(r2)) (
  some false) (
  Option.bind (D_darkslideref_within N p_H 1 64) fun r3 =>
  cond (!(r3)) (
  some false) (
  cond (!decide ((p_P.length : Int) = (IntKind.i64.wrap (p_W * p_H)))) (
  some false) (
  D_darkslideref_PlaneFine_l1 N p_P (fun i4 =>
  some true) N 0)))

def D_darkslideref_ColourAt (N : Nat) (phase : Int) (x2 : Int) (y : Int) : Option Int :=
  Option.bind (some (Int.tmod (IntKind.i64.wrap (x2 + (Int.tmod phase 2))) 2)) fun a2 =>
  Option.bind (some (Int.tmod (IntKind.i64.wrap (y + (IntKind.i64.wrap (Int.tdiv phase 2)))) 2)) fun b =>
  cond (decide (a2 = 0)) (
  cond (decide (b = 0)) (
  some 0) (
  cond (decide (a2 = 1)) (
  cond (decide (b = 1)) (
  some 2) (
  some 1)) (
  some 1))) (
  cond (decide (a2 = 1)) (
  cond (decide (b = 1)) (
  some 2) (
  some 1)) (
  some 1))

def D_darkslideref_At (N : Nat) (p_W : Int) (p_H : Int) (p_P : List Int) (x2 : Int) (y : Int) : Option Int :=
  Option.bind (idx p_P (IntKind.i64.wrap ((IntKind.i64.wrap (y * p_W)) + x2))) fun e =>
  some e

def D_darkslideref_pixel (N : Nat) (l0 : Int) (l1 : Int) (l2 : Int) : Option (Int × Int × Int) :=
  some (l0, l1, l2)

def D_darkslideref_Filled_l4 (N : Nat) (d_W : Int) (d_H : Int) (d_P : List Int) (o : Int) (i6 : Int) (i10 : Int) (kk : (Int × Int × Int × Int × Int × Int × Int) → Option (Int × Int × List (Int × Int × Int))) : Nat → (Int × Int × Int × Int × Int × Int × Int) → Option (Int × Int × List (Int × Int × Int))
  | 0, _ => none
  | fuel + 1, (x015, x119, x216, x016, x120, x217, i12) =>
    cond (decide (i12 ≤ (min (IntKind.i64.wrap (d_W - 1)) (IntKind.i64.wrap (i6 + 1))))) (
    Option.bind (D_darkslideref_ColourAt N o i12 i10) fun r28 =>
    cond (decide (r28 = 0)) (
    Option.bind (D_darkslideref_At N d_W d_H d_P i12 i10) fun r29 =>
    Option.bind (some (IntKind.i64.wrap (i12 + 1))) fun x49 =>
    D_darkslideref_Filled_l4 N d_W d_H d_P o i6 i10 kk fuel (IntKind.i64.wrap (x015 + 1), x119, x216, IntKind.i64.wrap (x016 + r29), x120, x217, x49)) (
    cond (decide (r28 = 1)) (
    Option.bind (D_darkslideref_At N d_W d_H d_P i12 i10) fun r30 =>
    Option.bind (some (IntKind.i64.wrap (i12 + 1))) fun x50 =>
    D_darkslideref_Filled_l4 N d_W d_H d_P o i6 i10 kk fuel (x015, IntKind.i64.wrap (x119 + 1), x216, x016, IntKind.i64.wrap (x120 + r30), x217, x50)) (
    cond (decide (r28 = 2)) (
    Option.bind (D_darkslideref_At N d_W d_H d_P i12 i10) fun r31 =>
    Option.bind (some (IntKind.i64.wrap (i12 + 1))) fun x51 =>
    D_darkslideref_Filled_l4 N d_W d_H d_P o i6 i10 kk fuel (x015, x119, IntKind.i64.wrap (x216 + 1), x016, x120, IntKind.i64.wrap (x217 + r31), x51)) (
    none)))) (
    kk (x015, x119, x216, x016, x120, x217, i12))

def D_darkslideref_Filled_l5 (N : Nat) (x019 : Int) (x123 : Int) (x220 : Int) (x020 : Int) (x124 : Int) (x221 : Int) (kk : (Int × Int × Int × Int) → Option (Int × Int × List (Int × Int × Int))) : Nat → (Int × Int × Int × Int) → Option (Int × Int × List (Int × Int × Int))
  | 0, _ => none
  | fuel + 1, (x021, x125, x222, i15) =>
    cond (decide (i15 < 3)) (
    cond (decide (i15 = 0)) (
    Option.bind (nz (max x019 1)) fun _ =>
    Option.bind (some (IntKind.i64.wrap (i15 + 1))) fun x56 =>
    D_darkslideref_Filled_l5 N x019 x123 x220 x020 x124 x221 kk fuel (IntKind.i64.wrap (Int.tdiv x020 (max x019 1)), x125, x222, x56)) (
    cond (decide (i15 = 1)) (
    Option.bind (nz (max x123 1)) fun _ =>
    Option.bind (some (IntKind.i64.wrap (i15 + 1))) fun x57 =>
    D_darkslideref_Filled_l5 N x019 x123 x220 x020 x124 x221 kk fuel (x021, IntKind.i64.wrap (Int.tdiv x124 (max x123 1)), x222, x57)) (
    cond (decide (i15 = 2)) (
    Option.bind (nz (max x220 1)) fun _ =>
    Option.bind (some (IntKind.i64.wrap (i15 + 1))) fun x58 =>
    D_darkslideref_Filled_l5 N x019 x123 x220 x020 x124 x221 kk fuel (x021, x125, IntKind.i64.wrap (Int.tdiv x221 (max x220 1)), x58)) (
    none)))) (
    kk (x021, x125, x222, i15))

def D_darkslideref_Filled_l3 (N : Nat) (d_W : Int) (d_H : Int) (d_P : List Int) (o : Int) (i : Int) (i6 : Int) (kk : (Int × Int × Int × Int × Int × Int × Int) → Option (Int × Int × List (Int × Int × Int))) : Nat → (Int × Int × Int × Int × Int × Int × Int) → Option (Int × Int × List (Int × Int × Int))
  | 0, _ => none
  | fuel + 1, (x011, x115, x212, x012, x116, x213, i10) =>
    cond (decide (i10 ≤ (min (IntKind.i64.wrap (d_H - 1)) (IntKind.i64.wrap (i + 1))))) (
    Option.bind (some (max 0 (IntKind.i64.wrap (i6 - 1)))) fun x45 =>
    D_darkslideref_Filled_l4 N d_W d_H d_P o i6 i10 (fun (x017, x121, x218, x018, x122, x219, i13) =>
    Option.bind (some (IntKind.i64.wrap (i10 + 1))) fun x52 =>
    D_darkslideref_Filled_l3 N d_W d_H d_P o i i6 kk fuel (x017, x121, x218, x018, x122, x219, x52)) N (x011, x115, x212, x012, x116, x213, x45)) (
    kk (x011, x115, x212, x012, x116, x213, i10))

def D_darkslideref_Filled_l2 (N : Nat) (d_W : Int) (d_H : Int) (d_P : List Int) (o : Int) (i : Int) (kk : (List (Int × Int × Int) × Int) → Option (Int × Int × List (Int × Int × Int))) : Nat → (List (Int × Int × Int) × Int) → Option (Int × Int × List (Int × Int × Int))
  | 0, _ => none
  | fuel + 1, (x_P6, i6) =>
    cond (decide (i6 < d_W)) (
    Option.bind (some (max 0 (IntKind.i64.wrap (i - 1)))) fun x39 =>
    D_darkslideref_Filled_l3 N d_W d_H d_P o i i6 (fun (x019, x123, x220, x020, x124, x221, i14) =>
    D_darkslideref_Filled_l5 N x019 x123 x220 x020 x124 x221 (fun (x022, x126, x223, i16) =>
    Option.bind (D_darkslideref_ColourAt N o i6 i) fun r32 =>
    Option.bind (D_darkslideref_At N d_W d_H d_P i6 i) fun r33 =>
    cond (decide (r32 = 0)) (
    Option.bind (D_darkslideref_pixel N r33 x126 x223) fun r34 =>
    Option.bind (app 24 x_P6 (([(r34.1, r34.2.1, r34.2.2)] : List (Int × Int × Int)))) fun x_P10 =>
    Option.bind (some (IntKind.i64.wrap (i6 + 1))) fun x59 =>
    D_darkslideref_Filled_l2 N d_W d_H d_P o i kk fuel (x_P10, x59)) (
    cond (decide (r32 = 1)) (
    Option.bind (D_darkslideref_pixel N x022 r33 x223) fun r35 =>
    Option.bind (app 24 x_P6 (([(r35.1, r35.2.1, r35.2.2)] : List (Int × Int × Int)))) fun x_P11 =>
    Option.bind (some (IntKind.i64.wrap (i6 + 1))) fun x60 =>
    D_darkslideref_Filled_l2 N d_W d_H d_P o i kk fuel (x_P11, x60)) (
    cond (decide (r32 = 2)) (
    Option.bind (D_darkslideref_pixel N x022 x126 r33) fun r36 =>
    Option.bind (app 24 x_P6 (([(r36.1, r36.2.1, r36.2.2)] : List (Int × Int × Int)))) fun x_P12 =>
    Option.bind (some (IntKind.i64.wrap (i6 + 1))) fun x61 =>
    D_darkslideref_Filled_l2 N d_W d_H d_P o i kk fuel (x_P12, x61)) (
    none)))) N (0, 0, 0, 0)) N (0, 0, 0, 0, 0, 0, x39)) (
    kk (x_P6, i6))

def D_darkslideref_Filled_l1 (N : Nat) (d_W : Int) (d_H : Int) (d_P : List Int) (o : Int) (kk : (List (Int × Int × Int) × Int) → Option (Int × Int × List (Int × Int × Int))) : Nat → (List (Int × Int × Int) × Int) → Option (Int × Int × List (Int × Int × Int))
  | 0, _ => none
  | fuel + 1, (x_P, i) =>
    cond (decide (i < d_H)) (
    D_darkslideref_Filled_l2 N d_W d_H d_P o i (fun (x_P13, i17) =>
    Option.bind (some (IntKind.i64.wrap (i + 1))) fun x62 =>
    D_darkslideref_Filled_l1 N d_W d_H d_P o kk fuel (x_P13, x62)) N (x_P, 0)) (
    kk (x_P, i))

def D_darkslideref_Filled (N : Nat) (d_W : Int) (d_H : Int) (d_P : List Int) (o : Int) : Option (Int × Int × List (Int × Int × Int)) :=
  D_darkslideref_Filled_l1 N d_W d_H d_P o (fun (x_P14, i18) =>
  some (d_W, d_H, x_P14)) N (([] : List (Int × Int × Int)), 0)

def D_darkslideref_PictureFine_l1 (N : Nat) (q_P : List (Int × Int × Int)) (kk : Int → Option Bool) : Nat → Int → Option Bool
  | 0, _ => none
  | fuel + 1, i =>
    cond (decide (i < (q_P.length : Int))) (
    Option.bind (idx q_P i) fun e4 =>
    Option.bind (D_darkslideref_within N e4.1 0 65535) fun r7 =>
    cond (!(r7)) (
    some false) (
    Option.bind (idx q_P i) fun e5 =>
    Option.bind (D_darkslideref_within N e5.2.1 0 65535) fun r8 =>
    cond (!(r8)) (
    some false) (
    Option.bind (idx q_P i) fun e6 =>
    Option.bind (D_darkslideref_within N e6.2.2 0 65535) fun r9 =>
    cond (!(r9)) (
    some false) (
    Option.bind (some (IntKind.i64.wrap (i + 1))) fun i3 =>
    D_darkslideref_PictureFine_l1 N q_P kk fuel i3)))) (
    kk i)

def D_darkslideref_PictureFine (N : Nat) (q_W : Int) (q_H : Int) (q_P : List (Int × Int × Int)) : Option Bool :=
  Option.bind (D_darkslideref_within N q_W 1 64) fun r2 =>
  cond (!(r2)) (
  some false) (
  Option.bind (D_darkslideref_within N q_H 1 64) fun r3 =>
  cond (!(r3)) (
  some false) (
  cond (!decide ((q_P.length : Int) = (IntKind.i64.wrap (q_W * q_H)))) (
  some false) (
  D_darkslideref_PictureFine_l1 N q_P (fun i4 =>
  some true) N 0)))

def D_darkslideref_parts (N : Nat) (c_R : Int) (c_G : Int) (c_B : Int) : Option (Int × Int × Int) :=
  some (c_R, c_G, c_B)

def D_darkslideref_Taken_l1 (N : Nat) (q_W : Int) (q_P : List (Int × Int × Int)) (phase : Int) (kk : (List Int × Int) → Option (Int × Int × List Int)) : Nat → (List Int × Int) → Option (Int × Int × List Int)
  | 0, _ => none
  | fuel + 1, (out_P, i) =>
    cond (decide (i < (q_P.length : Int))) (
    Option.bind (idx q_P i) fun e3 =>
    Option.bind (D_darkslideref_parts N e3.1 e3.2.1 e3.2.2) fun r4 =>
    Option.bind (nz q_W) fun _ =>
    Option.bind (nz q_W) fun _ =>
    Option.bind (D_darkslideref_ColourAt N phase (Int.tmod i q_W) (IntKind.i64.wrap (Int.tdiv i q_W))) fun r5 =>
    Option.bind (idx [r4.1, r4.2.1, r4.2.2] r5) fun e4 =>
    Option.bind (app 8 out_P ([e4] : List Int)) fun out_P3 =>
    Option.bind (some (IntKind.i64.wrap (i + 1))) fun i3 =>
    D_darkslideref_Taken_l1 N q_W q_P phase kk fuel (out_P3, i3)) (
    kk (out_P, i))

def D_darkslideref_Taken (N : Nat) (q_W : Int) (q_H : Int) (q_P : List (Int × Int × Int)) (phase : Int) : Option (Int × Int × List Int) :=
  D_darkslideref_Taken_l1 N q_W q_P phase (fun (out_P4, i4) =>
  some (q_W, q_H, out_P4)) N (([] : List Int), 0)

def D_darkslidelaw_small (N : Nat)  : Option (Int × Int × List Int) :=
  some (2, 2, ([10, 65535, 0, 7] : List Int))

def D_darkslideref_SameInts_l1 (N : Nat) (a2 : List Int) (b : List Int) (kk : Int → Option Bool) : Nat → Int → Option Bool
  | 0, _ => none
  | fuel + 1, i =>
    cond (decide (i < (a2.length : Int))) (
    Option.bind (idx a2 i) fun e3 =>
    Option.bind (idx b i) fun e4 =>
    cond (!decide (e3 = e4)) (
    some false) (
    Option.bind (some (IntKind.i64.wrap (i + 1))) fun i3 =>
    D_darkslideref_SameInts_l1 N a2 b kk fuel i3)) (
    kk i)

def D_darkslideref_SameInts (N : Nat) (a2 : List Int) (b : List Int) : Option Bool :=
  cond (!decide ((a2.length : Int) = (b.length : Int))) (
  some false) (
  D_darkslideref_SameInts_l1 N a2 b (fun i4 =>
  some true) N 0)

def D_darkslideref_SamePlanes (N : Nat) (a_W : Int) (a_H : Int) (a_P : List Int) (b_W : Int) (b_H : Int) (b_P : List Int) : Option Bool :=
  cond (decide (a_W = b_W)) (
  cond (decide (a_H = b_H)) (
  Option.bind (D_darkslideref_SameInts N a_P b_P) fun r2 =>
  some r2) (
  some false)) (
  some false)

def D_darkslidelaw_mosaicBegun (N : Nat)  : Option Bool :=
  Option.bind (D_darkslidelaw_small N ) fun r2 =>
  Option.bind (D_mosaic_Fill N r2.1 r2.2.1 r2.2.2 0) fun r3 =>
  Option.bind (D_mosaic_Take N r3.1 r3.2.1 r3.2.2.1 0) fun r4 =>
  cond (decide (r3.2.2.2 = 0)) (
  cond (decide (r4.2.2.2 = 0)) (
  cond (decide ((r3.2.2.1.length : Int) = 4)) (
  Option.bind (idx r3.2.2.1 0) fun e =>
  cond (decide (e.1 = 10) && decide (e.2.1 = 32767) && decide (e.2.2 = 7)) (
  Option.bind (D_darkslidelaw_small N ) fun r5 =>
  Option.bind (D_darkslideref_SamePlanes N r4.1 r4.2.1 r4.2.2.1 r5.1 r5.2.1 r5.2.2) fun r6 =>
  some r6) (
  some false)) (
  some false)) (
  some false)) (
  some false)

def D_darkslideref_SamePictures_l1 (N : Nat) (a_P : List (Int × Int × Int)) (b_P : List (Int × Int × Int)) (kk : Int → Option Bool) : Nat → Int → Option Bool
  | 0, _ => none
  | fuel + 1, i =>
    cond (decide (i < (a_P.length : Int))) (
    Option.bind (idx a_P i) fun e3 =>
    Option.bind (idx b_P i) fun e4 =>
    cond (!(decide (e3.1 = e4.1) && decide (e3.2.1 = e4.2.1) && decide (e3.2.2 = e4.2.2))) (
    some false) (
    Option.bind (some (IntKind.i64.wrap (i + 1))) fun i3 =>
    D_darkslideref_SamePictures_l1 N a_P b_P kk fuel i3)) (
    kk i)

def D_darkslideref_SamePictures (N : Nat) (a_W : Int) (a_H : Int) (a_P : List (Int × Int × Int)) (b_W : Int) (b_H : Int) (b_P : List (Int × Int × Int)) : Option Bool :=
  cond (!decide (a_W = b_W)) (
  some false) (
  cond (!decide (a_H = b_H)) (
  some false) (
  cond (!decide ((a_P.length : Int) = (b_P.length : Int))) (
  some false) (
  D_darkslideref_SamePictures_l1 N a_P b_P (fun i4 =>
  some true) N 0)))

def D_darkslidelaw_MosaicFills (N : Nat) (d_W : Int) (d_H : Int) (d_P : List Int) (o_W : Int) (o_H : Int) (o_P : List (Int × Int × Int)) (p2 : Int) : Option Bool :=
  Option.bind (D_mosaic_Fill N d_W d_H d_P p2) fun r2 =>
  Option.bind (D_mosaic_Take N o_W o_H o_P p2) fun r3 =>
  cond (decide (0 ≤ p2)) (
  Option.bind (D_darkslideref_PlaneFine N d_W d_H d_P) fun r4 =>
  cond (r4) (
  cond (decide (p2 ≤ 3)) (
  Option.bind (D_darkslideref_Filled N d_W d_H d_P p2) fun r5 =>
  Option.bind (D_darkslideref_PictureFine N o_W o_H o_P) fun r6 =>
  cond (r6) (
  cond (decide (p2 ≤ 3)) (
  Option.bind (D_darkslideref_Taken N o_W o_H o_P p2) fun r7 =>
  Option.bind (D_darkslidelaw_mosaicBegun N ) fun r8 =>
  cond (r8) (
  cond (decide (r2.2.2.2 = 0)) (
  cond (decide (r3.2.2.2 = 0)) (
  Option.bind (D_darkslideref_SamePictures N r2.1 r2.2.1 r2.2.2.1 r5.1 r5.2.1 r5.2.2) fun r9 =>
  cond (r9) (
  Option.bind (D_darkslideref_SamePlanes N r3.1 r3.2.1 r3.2.2.1 r7.1 r7.2.1 r7.2.2) fun r10 =>
  some r10) (
  some false)) (
  some false)) (
  some false)) (
  some false)) (
  Option.bind (D_darkslidelaw_mosaicBegun N ) fun r11 =>
  cond (r11) (
  cond (decide (r2.2.2.2 = 0)) (
  cond (decide (r3.2.2.2 = 3)) (
  Option.bind (D_darkslideref_SamePictures N r2.1 r2.2.1 r2.2.2.1 r5.1 r5.2.1 r5.2.2) fun r12 =>
  cond (r12) (
  Option.bind (D_darkslideref_SamePlanes N r3.1 r3.2.1 r3.2.2.1 0 0 ([] : List Int)) fun r13 =>
  some r13) (
  some false)) (
  some false)) (
  some false)) (
  some false))) (
  Option.bind (D_darkslidelaw_mosaicBegun N ) fun r14 =>
  cond (r14) (
  cond (decide (r2.2.2.2 = 0)) (
  cond (decide (r3.2.2.2 = 1)) (
  Option.bind (D_darkslideref_SamePictures N r2.1 r2.2.1 r2.2.2.1 r5.1 r5.2.1 r5.2.2) fun r15 =>
  cond (r15) (
  Option.bind (D_darkslideref_SamePlanes N r3.1 r3.2.1 r3.2.2.1 0 0 ([] : List Int)) fun r16 =>
  some r16) (
  some false)) (
  some false)) (
  some false)) (
  some false))) (
  Option.bind (D_darkslideref_PictureFine N o_W o_H o_P) fun r17 =>
  cond (r17) (
  cond (decide (p2 ≤ 3)) (
  Option.bind (D_darkslideref_Taken N o_W o_H o_P p2) fun r18 =>
  Option.bind (D_darkslidelaw_mosaicBegun N ) fun r19 =>
  cond (r19) (
  cond (decide (r2.2.2.2 = 3)) (
  cond (decide (r3.2.2.2 = 0)) (
  Option.bind (D_darkslideref_SamePictures N r2.1 r2.2.1 r2.2.2.1 0 0 (([] : List (Int × Int × Int)))) fun r20 =>
  cond (r20) (
  Option.bind (D_darkslideref_SamePlanes N r3.1 r3.2.1 r3.2.2.1 r18.1 r18.2.1 r18.2.2) fun r21 =>
  some r21) (
  some false)) (
  some false)) (
  some false)) (
  some false)) (
  Option.bind (D_darkslidelaw_mosaicBegun N ) fun r22 =>
  cond (r22) (
  cond (decide (r2.2.2.2 = 3)) (
  cond (decide (r3.2.2.2 = 3)) (
  Option.bind (D_darkslideref_SamePictures N r2.1 r2.2.1 r2.2.2.1 0 0 (([] : List (Int × Int × Int)))) fun r23 =>
  cond (r23) (
  Option.bind (D_darkslideref_SamePlanes N r3.1 r3.2.1 r3.2.2.1 0 0 ([] : List Int)) fun r24 =>
  some r24) (
  some false)) (
  some false)) (
  some false)) (
  some false))) (
  Option.bind (D_darkslidelaw_mosaicBegun N ) fun r25 =>
  cond (r25) (
  cond (decide (r2.2.2.2 = 3)) (
  cond (decide (r3.2.2.2 = 1)) (
  Option.bind (D_darkslideref_SamePictures N r2.1 r2.2.1 r2.2.2.1 0 0 (([] : List (Int × Int × Int)))) fun r26 =>
  cond (r26) (
  Option.bind (D_darkslideref_SamePlanes N r3.1 r3.2.1 r3.2.2.1 0 0 ([] : List Int)) fun r27 =>
  some r27) (
  some false)) (
  some false)) (
  some false)) (
  some false)))) (
  Option.bind (D_darkslideref_PictureFine N o_W o_H o_P) fun r28 =>
  cond (r28) (
  cond (decide (p2 ≤ 3)) (
  Option.bind (D_darkslideref_Taken N o_W o_H o_P p2) fun r29 =>
  Option.bind (D_darkslidelaw_mosaicBegun N ) fun r30 =>
  cond (r30) (
  cond (decide (r2.2.2.2 = 1)) (
  cond (decide (r3.2.2.2 = 0)) (
  Option.bind (D_darkslideref_SamePictures N r2.1 r2.2.1 r2.2.2.1 0 0 (([] : List (Int × Int × Int)))) fun r31 =>
  cond (r31) (
  Option.bind (D_darkslideref_SamePlanes N r3.1 r3.2.1 r3.2.2.1 r29.1 r29.2.1 r29.2.2) fun r32 =>
  some r32) (
  some false)) (
  some false)) (
  some false)) (
  some false)) (
  Option.bind (D_darkslidelaw_mosaicBegun N ) fun r33 =>
  cond (r33) (
  cond (decide (r2.2.2.2 = 1)) (
  cond (decide (r3.2.2.2 = 3)) (
  Option.bind (D_darkslideref_SamePictures N r2.1 r2.2.1 r2.2.2.1 0 0 (([] : List (Int × Int × Int)))) fun r34 =>
  cond (r34) (
  Option.bind (D_darkslideref_SamePlanes N r3.1 r3.2.1 r3.2.2.1 0 0 ([] : List Int)) fun r35 =>
  some r35) (
  some false)) (
  some false)) (
  some false)) (
  some false))) (
  Option.bind (D_darkslidelaw_mosaicBegun N ) fun r36 =>
  cond (r36) (
  cond (decide (r2.2.2.2 = 1)) (
  cond (decide (r3.2.2.2 = 1)) (
  Option.bind (D_darkslideref_SamePictures N r2.1 r2.2.1 r2.2.2.1 0 0 (([] : List (Int × Int × Int)))) fun r37 =>
  cond (r37) (
  Option.bind (D_darkslideref_SamePlanes N r3.1 r3.2.1 r3.2.2.1 0 0 ([] : List Int)) fun r38 =>
  some r38) (
  some false)) (
  some false)) (
  some false)) (
  some false)))) (
  Option.bind (D_darkslideref_PlaneFine N d_W d_H d_P) fun r39 =>
  cond (r39) (
  Option.bind (D_darkslideref_PictureFine N o_W o_H o_P) fun r40 =>
  cond (r40) (
  Option.bind (D_darkslidelaw_mosaicBegun N ) fun r41 =>
  cond (r41) (
  cond (decide (r2.2.2.2 = 3)) (
  cond (decide (r3.2.2.2 = 3)) (
  Option.bind (D_darkslideref_SamePictures N r2.1 r2.2.1 r2.2.2.1 0 0 (([] : List (Int × Int × Int)))) fun r42 =>
  cond (r42) (
  Option.bind (D_darkslideref_SamePlanes N r3.1 r3.2.1 r3.2.2.1 0 0 ([] : List Int)) fun r43 =>
  some r43) (
  some false)) (
  some false)) (
  some false)) (
  some false)) (
  Option.bind (D_darkslidelaw_mosaicBegun N ) fun r44 =>
  cond (r44) (
  cond (decide (r2.2.2.2 = 3)) (
  cond (decide (r3.2.2.2 = 1)) (
  Option.bind (D_darkslideref_SamePictures N r2.1 r2.2.1 r2.2.2.1 0 0 (([] : List (Int × Int × Int)))) fun r45 =>
  cond (r45) (
  Option.bind (D_darkslideref_SamePlanes N r3.1 r3.2.1 r3.2.2.1 0 0 ([] : List Int)) fun r46 =>
  some r46) (
  some false)) (
  some false)) (
  some false)) (
  some false))) (
  Option.bind (D_darkslideref_PictureFine N o_W o_H o_P) fun r47 =>
  cond (r47) (
  Option.bind (D_darkslidelaw_mosaicBegun N ) fun r48 =>
  cond (r48) (
  cond (decide (r2.2.2.2 = 1)) (
  cond (decide (r3.2.2.2 = 3)) (
  Option.bind (D_darkslideref_SamePictures N r2.1 r2.2.1 r2.2.2.1 0 0 (([] : List (Int × Int × Int)))) fun r49 =>
  cond (r49) (
  Option.bind (D_darkslideref_SamePlanes N r3.1 r3.2.1 r3.2.2.1 0 0 ([] : List Int)) fun r50 =>
  some r50) (
  some false)) (
  some false)) (
  some false)) (
  some false)) (
  Option.bind (D_darkslidelaw_mosaicBegun N ) fun r51 =>
  cond (r51) (
  cond (decide (r2.2.2.2 = 1)) (
  cond (decide (r3.2.2.2 = 1)) (
  Option.bind (D_darkslideref_SamePictures N r2.1 r2.2.1 r2.2.2.1 0 0 (([] : List (Int × Int × Int)))) fun r52 =>
  cond (r52) (
  Option.bind (D_darkslideref_SamePlanes N r3.1 r3.2.1 r3.2.2.1 0 0 ([] : List Int)) fun r53 =>
  some r53) (
  some false)) (
  some false)) (
  some false)) (
  some false))))

def D_darkslidelaw_choose (N : Nat) (c : Int) (n : Int) : Option Int :=
  cond (decide (c < 0)) (
  Option.bind (some (IntKind.i64.wrap (0 - (IntKind.i64.wrap (c + 1))))) fun c2 =>
  Option.bind (nz n) fun _ =>
  some (Int.tmod c2 n)) (
  Option.bind (nz n) fun _ =>
  some (Int.tmod c n))

def D_darkslidelaw_MosaicKeeps_l1 (N : Nat) (d_P : List Int) (kk : (Int × Int) → Option Bool) : Nat → (Int × Int) → Option Bool
  | 0, _ => none
  | fuel + 1, (i, i2) =>
    cond (decide (i2 < (d_P.length : Int))) (
    Option.bind (idx d_P i2) fun e2 =>
    Option.bind (some (max i e2)) fun x4 =>
    Option.bind (some (IntKind.i64.wrap (i2 + 1))) fun x5 =>
    D_darkslidelaw_MosaicKeeps_l1 N d_P kk fuel (x4, x5)) (
    kk (i, i2))

def D_darkslidelaw_MosaicKeeps (N : Nat) (d_W : Int) (d_H : Int) (d_P : List Int) (o : Int) (p2 : Int) : Option Bool :=
  Option.bind (D_mosaic_Fill N d_W d_H d_P o) fun r2 =>
  cond (!decide (r2.2.2.2 = 0)) (
  Option.bind (D_darkslidelaw_mosaicBegun N ) fun r3 =>
  some r3) (
  Option.bind (D_mosaic_Take N r2.1 r2.2.1 r2.2.2.1 o) fun r4 =>
  D_darkslidelaw_MosaicKeeps_l1 N d_P (fun (i3, i4) =>
  cond (decide ((r2.2.2.1.length : Int) = 0)) (
  some false) (
  Option.bind (D_darkslidelaw_choose N p2 (r2.2.2.1.length : Int)) fun r5 =>
  Option.bind (idx r2.2.2.1 r5) fun e3 =>
  Option.bind (D_darkslidelaw_mosaicBegun N ) fun r6 =>
  cond (r6) (
  cond (decide (r4.2.2.2 = 0)) (
  Option.bind (D_darkslideref_SamePlanes N r4.1 r4.2.1 r4.2.2.1 d_W d_H d_P) fun r7 =>
  cond (r7) (
  cond (decide (e3.1 ≤ i3)) (
  cond (decide (e3.2.1 ≤ i3)) (
  some (decide (e3.2.2 ≤ i3))) (
  some false)) (
  some false)) (
  some false)) (
  some false)) (
  some false))) N (0, 0))

end Go.Proofs.Ytpmnfhifmmfglaa
