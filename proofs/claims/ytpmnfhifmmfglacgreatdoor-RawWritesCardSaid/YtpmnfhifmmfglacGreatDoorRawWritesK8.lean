/- Texts of the claim RawWrites, joined and made small by a program. -/
import Derived.ChangeKeysEq
import Derived.Laws.BytesArg
import Derived.Laws.CopyRow
import Derived.Laws.IdiomCopy
import Derived.Laws.IdiomStrings
import Derived.Laws.Strings2
import Derived.Laws.Strings3
import Derived.Lib.AppendStr
import Derived.Lib.SliceRun
import Derived.LoopN
import Derived.Maps.OwnSet
import Derived.Recover
import Derived.Scope
import Derived.Stop.IfaceNil
import Derived.WalkSpells
import Derived.WideMake
import Derived.Test.YtpmnfhifmmfglacGreatDoorRawWritesK4
import Derived.Test.YtpmnfhifmmfglacGreatDoorRawWritesK7
set_option linter.unusedVariables false
set_option linter.unusedSimpArgs false
set_option linter.unusedSectionVars false
set_option maxRecDepth 100000
set_option maxHeartbeats 8000000
namespace Go.Proofs.YtpmnfhifmmfglacGreatDoor
section
open Go
theorem aEm {n : Int} (h : 0 ≤ n ∧ n < 4294967296) : IntKind.i32.wrap n = if n < 2147483648 then n else n - 4294967296 := by
 have e : IntKind.i32.wrap n = if n % 4294967296 ≥ 2147483648 then n % 4294967296 - 4294967296 else n % 4294967296 := by
  simp [IntKind.wrap, IntKind.bits, IntKind.signed]
 rw [e, show n % 4294967296 = n by omega]
 split <;> split <;> omega
theorem Wj {x y : Nat} (hx : x < 16777216) (hy : y < 256) : KT .i64 (rE .i64 (x : Int) 8) (IntKind.i64.wrap (y : Int)) = ((x * 256 + y : Nat) : Int) := by
 rw [show (8 : Int) = ((8 : Nat) : Int) from rfl, BI (by decide) (by omega), iE (by omega)];exact Jo (h := x) (d := 8) (e := y) (by omega) (by omega)
theorem Wk (a b c d : UInt8) : IntKind.i64.wrap (IntKind.i32.wrap ((((a.toNat * 256 + b.toNat) * 256 + c.toNat) * 256 + d.toNat : Nat) : Int)) = v32 a b c d := by
 have ha := a.toNat_lt; have hb := b.toNat_lt; have hc := c.toNat_lt; have hd := d.toNat_lt;rw [aEm (by omega)];unfold v32
 by_cases q : (a.toNat : Int) < 128
 ·rw [if_pos q, if_pos (by omega), iE (by omega)]; omega
 ·rw [if_neg q, if_neg (by omega), iE (by omega)]; omega
theorem YY (N : Nat) (l : List UInt8 × List UInt8) (kk) (hl : l.1.length ≤ 4) : ∀ (j k fuel x : Nat), k + j = l.1.length → j < fuel → x < 256 ^ k → jT N l kk fuel ((x : Int), (k : Int)) = kk (((((l.1.drop k).foldl (fun x b => x * 256 + b.toNat) x : Nat)) : Int), (l.1.length : Int)) := by
 intro j
 induction j with
 | zero =>
  intro k fuel x hk hf hx;obtain ⟨fuel, rfl⟩ := mN fuel (by omega);unfold jT;rw [cF (dF (by rw [rL]; omega)), List.drop_of_length_le (by omega), show k = l.1.length by omega]; rfl
 | succ j ih =>
  intro k fuel x hk hf hx;obtain ⟨fuel, rfl⟩ := mN fuel (by omega);have hlt : k < l.1.length := by omega
  have hb := (l.1[k]).toNat_lt
  have hx2 : x < 16777216 := by
   have : 256 ^ k ≤ 256 ^ 3 := Nat.pow_le_pow_right (by decide) (by omega);have e : (256 : Nat) ^ 3 = 16777216 := by decide
   omega
  unfold jT;rw [cT (dT (by rw [rL]; omega)), gB];have e1 : (sN l.1)[k]? = some ((l.1[k].toNat : Nat) : Int) := by unfold sN; rw [List.getElem?_map, List.getElem?_eq_getElem hlt]; rfl
  rw [e1, aC, Wj hx2 hb, aC, iE (x := (k : Int) + 1) (by omega)];refine Eq.trans (ih (k + 1) fuel (x * 256 + l.1[k].toNat) (by omega) (by omega) (by rw [Nat.pow_succ]; omega)) ?_;rw [List.drop_eq_getElem_cons hlt, List.foldl_cons]
theorem FN (N : Nat) (S : List UInt8) (n : Int) : iX N S n = some (if 0 ≤ n ∧ n ≤ S.length then some (S.take n.toNat, S.drop n.toNat) else none) := by
 unfold iX
 by_cases h1 : n < 0
 ·rw [cT (dT h1), if_neg (by omega)]
 rw [cF (dF h1)]
 by_cases h2 : (S.length : Int) < n
 ·rw [cT (dT h2), if_neg (by omega)]
 rw [cF (dF h2), DK (by omega), aC, DK (by omega), aC, if_pos (by omega), show ((0 : Int)).toNat = 0 from rfl, List.drop_zero, Int.toNat_natCast, List.take_length]
theorem zP (N : Nat) (hN : 6 ≤ N) (S : List UInt8) : bD N S = some (yE S) := by
 unfold bD;rw [FN, aC]
 rcases S with _ | ⟨a, _ | ⟨b, _ | ⟨c, _ | ⟨d, t⟩⟩⟩⟩
 ·rfl
 ·rfl
 ·rfl
 ·rfl
 rw [if_pos (by simp; omega)];show jT N ([a, b, c, d], t) _ N (0, 0) = _;have key := YY N ([a, b, c, d], t) (fun (n4, i2) => some (some (IntKind.i64.wrap (IntKind.i32.wrap n4), t))) (by simp) 4 0 N 0 rfl (by omega) (by decide);refine Eq.trans key ?_;show some (some (IntKind.i64.wrap (IntKind.i32.wrap ((((0 * 256 + a.toNat) * 256 + b.toNat) * 256 + c.toNat) * 256 + d.toNat : Nat)), t)) = some (some (v32 a b c d, t));rw [← Wk, Nat.zero_mul, Nat.zero_add]
def Sr {α β : Type} (no : Option β) (kk : List α × List UInt8 × Int → Option β) (l : List α) (i : Int) : Option (List α × List UInt8) → Option β
 | none => no
 | some (m, u) => kk (l ++ m, u, i)
section
variable {γ : Type} {out : Option γ → Option Mc} {no : Option Mc}
theorem uY {N : Nat} (hN : 6 ≤ N) (hno : out none = no) (S : List UInt8) {k : Int × List UInt8 → Option Mc} {g : Int × List UInt8 → Option γ} (h : ∀ n t, k (n, t) = out (g (n, t))) : (Option.bind (bD N S) fun q => BL q no k) = out ((yE S).bind g) := by
 rw [zP N hN, aC]
 rcases yE S with _ | ⟨n, t⟩
 ·exact hno.symm
 ·exact h n t
theorem aBi {N : Nat} (hN : 6 ≤ N) (hno : out none = no) (S : List UInt8) {k : List UInt8 × List UInt8 → Option Mc} {g : List UInt8 × List UInt8 → Option γ} (h : ∀ n t, k (n, t) = out (g (n, t))) : (Option.bind (bD N S) fun q => BL q no fun r2 => Option.bind (iX N r2.2 r2.1) fun q2 => BL q2 no k) = out ((KY S).bind g) := by
 rw [zP N hN, aC];unfold KY Vf
 rcases yE S with _ | ⟨n, t⟩
 ·exact hno.symm
 show (Option.bind (iX N t n) fun q2 => BL q2 no k) = out ((((if _ then _ else _ : Option (Nat × List UInt8))).bind _).bind g);rw [FN, aC]
 dsimp only
 by_cases q : 0 ≤ n ∧ n ≤ t.length
 ·rw [if_pos q, if_pos q]; exact h _ _
 ·rw [if_neg q, if_neg q]; exact hno.symm
theorem Qp {N : Nat} (hN : 2147483655 ≤ N) (hno : out none = no) (S : List UInt8) {α : Type} {f : List UInt8 → Option (α × List UInt8)} {lp : Int × List UInt8 → (List α × List UInt8 × Int → Option Mc) → Nat → List α × List UInt8 × Int → Option Mc} {kk : List α × List UInt8 × Int → Option Mc} {g : List α × List UInt8 → Option γ}
  (hl : ∀ (n : Int) (s0 : List UInt8), n < 2147483648 → ∀ (j fuel : Nat) (l : List α) (t : List UInt8), l.length + j = n.toNat → j < fuel → lp (n, s0) kk fuel (l, t, (l.length : Int)) = Sr no kk l (((l.length + j : Nat)) : Int) (C4 f j t))
  (h : ∀ l t i, kk (l, t, i) = out (g (l, t))) : (Option.bind (bD N S) fun q => BL q no fun r9 => cond (decide (r9.1 < 0)) no (cond (decide ((r9.2.length : Int) < r9.1)) no (lp r9 kk N ([], r9.2, 0)))) = out ((Kq f S).bind g) := by
 rw [zP N (by omega), aC];unfold Kq Vf
 rcases hr : yE S with _ | ⟨n, t⟩
 ·exact hno.symm
 obtain ⟨_, hi⟩ := eS hr;unfold is32 at hi;show cond (decide (n < 0)) no (cond (decide ((t.length : Int) < n)) no (lp (n, t) kk N ([], t, 0))) = out ((((if _ then _ else _ : Option (Nat × List UInt8))).bind _).bind g)
 by_cases q1 : n < 0
 ·rw [cT (dT q1), if_neg (fun q => by have := q.1; omega)]; exact hno.symm
 rw [cF (dF q1)]
 by_cases q2 : (t.length : Int) < n
 ·rw [cT (dT q2), if_neg (fun q => by have : n ≤ (t.length : Int) := q.2; omega)]; exact hno.symm
 rw [cF (dF q2), if_pos ⟨by omega, by show n ≤ (t.length : Int); omega⟩];have := hl n t (by omega) n.toNat N [] t (by simp) (by omega);refine Eq.trans this ?_
 dsimp only
 show _ = out ((C4 f n.toNat t).bind g)
 rcases C4 f n.toNat t with _ | ⟨m, u⟩
 ·exact hno.symm
 ·show kk ([] ++ m, u, _) = _;rw [List.nil_append]; exact h _ _ _
end
def AC : Option Mc := some (0, 0, 0, 0, 0, [], [], 0, 0, 0, 0, 0, 0, [], 0, 0, 0, 0, 0, 0, 0, 0, 0, 0, 0, 0, [], 0, 1)
theorem aBj (N : Nat) (hN : 6 ≤ N) (kk) (n : Int) (s0 : List UInt8) (hn : n < 2147483648) : ∀ (j fuel : Nat) (l : List Int) (t : List UInt8), l.length + j = n.toNat → j < fuel → sS N (n, s0) kk fuel (l, t, (l.length : Int)) = Sr AC kk l (((l.length + j : Nat)) : Int) (C4 yE j t) := by
 intro j
 induction j with
 | zero =>
  intro fuel l t hl hf;obtain ⟨fuel, rfl⟩ := mN fuel (by omega);unfold sS;rw [cF (dF (by show ¬ (l.length : Int) < n; omega))];show kk _ = kk _;rw [List.append_nil]; rfl
 | succ j ih =>
  intro fuel l t hl hf;obtain ⟨fuel, rfl⟩ := mN fuel (by omega);unfold sS C4;rw [cT (dT (by show (l.length : Int) < n; omega)), zP N hN, aC]
  rcases yE t with _ | ⟨x, u⟩
  ·rfl
  show (Option.bind (app 8 l [x]) _) = _;rw [kY (by simp; omega), aC, iE (x := (l.length : Int) + 1) (by omega)];have := ih fuel (l ++ [x]) u (by simp; omega) (by omega);rw [List.length_append] at this;refine Eq.trans this ?_;show _ = Sr AC kk l (((l.length + (j + 1) : Nat)) : Int) ((C4 yE j u).bind fun q => some (x :: q.1, q.2))
  rcases C4 yE j u with _ | ⟨m, v⟩
  ·rfl
  ·show kk _ = kk _;rw [List.append_assoc]
   congr 3
   simp; omega
theorem aBk (N : Nat) (hN : 6 ≤ N) (kk) (n : Int) (s0 : List UInt8) (hn : n < 2147483648) : ∀ (j fuel : Nat) (l : List (List UInt8)) (t : List UInt8), l.length + j = n.toNat → j < fuel → sR N (n, s0) kk fuel (l, t, (l.length : Int)) = Sr AC kk l (((l.length + j : Nat)) : Int) (C4 KY j t) := by
 intro j
 induction j with
 | zero =>
  intro fuel l t hl hf;obtain ⟨fuel, rfl⟩ := mN fuel (by omega);unfold sR;rw [cF (dF (by show ¬ (l.length : Int) < n; omega))];show kk _ = kk _;rw [List.append_nil]; rfl
 | succ j ih =>
  intro fuel l t hl hf;obtain ⟨fuel, rfl⟩ := mN fuel (by omega);unfold sR C4;rw [cT (dT (by show (l.length : Int) < n; omega)), zP N hN, aC];unfold KY Vf
  rcases yE t with _ | ⟨x, u⟩
  ·rfl
  show (Option.bind (iX N u x) fun q15 => BL q15 _ _) = _;rw [FN, aC];show _ = Sr AC kk l (((l.length + (j + 1) : Nat)) : Int) ((((if _ then _ else _ : Option (Nat × List UInt8))).bind fun p => some (p.2.take p.1, p.2.drop p.1)).bind _)
  by_cases q : 0 ≤ x ∧ x ≤ (u.length : Int)
  rotate_left
  ·rw [if_neg q, if_neg (fun q' => q q')]; rfl
  rw [if_pos q, if_pos (show 0 ≤ (x, u).1 ∧ (x, u).1 ≤ ((x, u).2.length : Int) from q)];show (Option.bind (app 16 l [u.take x.toNat]) _) = _;rw [kY (by simp; omega), aC, iE (x := (l.length : Int) + 1) (by omega)];have := ih fuel (l ++ [u.take x.toNat]) (u.drop x.toNat) (by simp; omega) (by omega);rw [List.length_append] at this;refine Eq.trans this ?_;show _ = Sr AC kk l (((l.length + (j + 1) : Nat)) : Int) ((C4 KY j (u.drop x.toNat)).bind fun q => some (u.take x.toNat :: q.1, q.2))
  rcases C4 KY j (u.drop x.toNat) with _ | ⟨m, v⟩
  ·rfl
  ·show kk _ = kk _;rw [List.append_assoc]
   congr 3
   simp; omega
theorem aBl (N : Nat) (hN : 6 ≤ N) (kk) (n : Int) (s0 : List UInt8) (hn : n < 2147483648) : ∀ (j fuel : Nat) (l : List (Int × Int)) (t : List UInt8), l.length + j = n.toNat → j < fuel → sQ N (n, s0) kk fuel (l, t, (l.length : Int)) = Sr AC kk l (((l.length + j : Nat)) : Int) (C4 Kp j t) := by
 intro j
 induction j with
 | zero =>
  intro fuel l t hl hf;obtain ⟨fuel, rfl⟩ := mN fuel (by omega);unfold sQ;rw [cF (dF (by show ¬ (l.length : Int) < n; omega))];show kk _ = kk _;rw [List.append_nil]; rfl
 | succ j ih =>
  intro fuel l t hl hf;obtain ⟨fuel, rfl⟩ := mN fuel (by omega);unfold sQ C4;rw [cT (dT (by show (l.length : Int) < n; omega)), zP N hN, aC];unfold Kp
  rcases yE t with _ | ⟨x, u⟩
  ·rfl
  show (Option.bind (bD N u) fun Ys => BL Ys _ _) = Sr AC kk l (((l.length + (j + 1) : Nat)) : Int) ((((yE u).bind _)).bind _);rw [zP N hN, aC]
  rcases yE u with _ | ⟨y, v⟩
  ·rfl
  show (Option.bind (app 16 l [(x, y)]) _) = _;rw [kY (by simp; omega), aC, iE (x := (l.length : Int) + 1) (by omega)];have := ih fuel (l ++ [(x, y)]) v (by simp; omega) (by omega);rw [List.length_append] at this;refine Eq.trans this ?_;show _ = Sr AC kk l (((l.length + (j + 1) : Nat)) : Int) ((C4 Kp j v).bind fun q => some ((x, y) :: q.1, q.2))
  rcases C4 Kp j v with _ | ⟨m, z⟩
  ·rfl
  ·show kk _ = kk _;rw [List.append_assoc]
   congr 3
   simp; omega
theorem aBm (N : Nat) (hN : 6 ≤ N) (kk) (n : Int) (s0 : List UInt8) (hn : n < 2147483648) : ∀ (j fuel : Nat) (l : List (Int × Int)) (t : List UInt8), l.length + j = n.toNat → j < fuel → sP N (n, s0) kk fuel (l, t, (l.length : Int)) = Sr AC kk l (((l.length + j : Nat)) : Int) (C4 Kp j t) := by
 intro j
 induction j with
 | zero =>
  intro fuel l t hl hf;obtain ⟨fuel, rfl⟩ := mN fuel (by omega);unfold sP;rw [cF (dF (by show ¬ (l.length : Int) < n; omega))];show kk _ = kk _;rw [List.append_nil]; rfl
 | succ j ih =>
  intro fuel l t hl hf;obtain ⟨fuel, rfl⟩ := mN fuel (by omega);unfold sP C4;rw [cT (dT (by show (l.length : Int) < n; omega)), zP N hN, aC];unfold Kp
  rcases yE t with _ | ⟨x, u⟩
  ·rfl
  show (Option.bind (bD N u) fun Ys => BL Ys _ _) = Sr AC kk l (((l.length + (j + 1) : Nat)) : Int) ((((yE u).bind _)).bind _);rw [zP N hN, aC]
  rcases yE u with _ | ⟨y, v⟩
  ·rfl
  show (Option.bind (app 16 l [(x, y)]) _) = _;rw [kY (by simp; omega), aC, iE (x := (l.length : Int) + 1) (by omega)];have := ih fuel (l ++ [(x, y)]) v (by simp; omega) (by omega);rw [List.length_append] at this;refine Eq.trans this ?_;show _ = Sr AC kk l (((l.length + (j + 1) : Nat)) : Int) ((C4 Kp j v).bind fun q => some ((x, y) :: q.1, q.2))
  rcases C4 Kp j v with _ | ⟨m, z⟩
  ·rfl
  ·show kk _ = kk _;rw [List.append_assoc]
   congr 3
   simp; omega
def xF (N : Nat) : Option (Ym × List UInt8) → Option Mc
 | none => AC
 | some ((W, H, D, K, R, Ls, St, ph, b0, b1, b2, b3, w, sp, g0, g1, g2, m0, m1, m2, m3, m4, m5, m6, m7, m8, cv, am), t) =>
  cond (!decide (t = ([] : List UInt8))) AC (Option.bind (sF N W H D K R Ls St ph b0 b1 b2 b3 w sp g0 g1 g2 m0 m1 m2 m3 m4 m5 m6 m7 m8 cv am) fun e => cond (!decide (e = 0)) AC (some (W, H, D, K, R, Ls, St, ph, b0, b1, b2, b3, w, sp, g0, g1, g2, m0, m1, m2, m3, m4, m5, m6, m7, m8, cv, am, 0)))
theorem Kz (N : Nat) (hN : 2147483655 ≤ N) (s : List UInt8) : tY N s = xF N (OW s) := by
 have h6 : 6 ≤ N := by omega
 have no : xF N none = AC := rfl;unfold tY OW;refine aBi (out := xF N) h6 no s fun m s => ?_
 dsimp only
 by_cases hm : m = [100, 97, 114, 107]
 rotate_left
 ·rw [cT (by rw [dF hm]; rfl), if_pos (show m ≠ CE from hm)]; rfl
 rw [cF (by rw [dT hm]; rfl), if_neg (fun q => q hm)];refine uY (out := xF N) h6 no s fun W s => ?_; dsimp only
 refine uY (out := xF N) h6 no s fun H s => ?_; dsimp only
 refine uY (out := xF N) h6 no s fun D s => ?_; dsimp only
 refine uY (out := xF N) h6 no s fun K s => ?_; dsimp only
 refine uY (out := xF N) h6 no s fun R s => ?_; dsimp only
 refine Qp (out := xF N) hN no s (lp := sS N) (fun n s0 hn => aBj N h6 _ n s0 hn) fun Ls s i => ?_; dsimp only
 refine Qp (out := xF N) hN no s (lp := sR N) (fun n s0 hn => aBk N h6 _ n s0 hn) fun St s i => ?_; dsimp only
 refine uY (out := xF N) h6 no s fun ph s => ?_; dsimp only
 refine uY (out := xF N) h6 no s fun b0 s => ?_; dsimp only
 refine uY (out := xF N) h6 no s fun b1 s => ?_; dsimp only
 refine uY (out := xF N) h6 no s fun b2 s => ?_; dsimp only
 refine uY (out := xF N) h6 no s fun b3 s => ?_; dsimp only
 refine uY (out := xF N) h6 no s fun w s => ?_; dsimp only
 refine Qp (out := xF N) hN no s (lp := sQ N) (fun n s0 hn => aBl N h6 _ n s0 hn) fun sp s i => ?_; dsimp only
 refine uY (out := xF N) h6 no s fun g0 s => ?_; dsimp only
 refine uY (out := xF N) h6 no s fun g1 s => ?_; dsimp only
 refine uY (out := xF N) h6 no s fun g2 s => ?_; dsimp only
 refine uY (out := xF N) h6 no s fun m0 s => ?_; dsimp only
 refine uY (out := xF N) h6 no s fun m1 s => ?_; dsimp only
 refine uY (out := xF N) h6 no s fun m2 s => ?_; dsimp only
 refine uY (out := xF N) h6 no s fun m3 s => ?_; dsimp only
 refine uY (out := xF N) h6 no s fun m4 s => ?_; dsimp only
 refine uY (out := xF N) h6 no s fun m5 s => ?_; dsimp only
 refine uY (out := xF N) h6 no s fun m6 s => ?_; dsimp only
 refine uY (out := xF N) h6 no s fun m7 s => ?_; dsimp only
 refine uY (out := xF N) h6 no s fun m8 s => ?_; dsimp only
 refine Qp (out := xF N) hN no s (lp := sP N) (fun n s0 hn => aBm N h6 _ n s0 hn) fun cv s i => ?_; dsimp only
 refine uY (out := xF N) h6 no s fun am s => ?_; dsimp only
 rfl
theorem IT (N : Nat) (S : List UInt8) : aD N S true = some (0, S, true) := by
 unfold aD; rfl
theorem or4 (a b c d : UInt8) : KT .i64 (KT .i64 (KT .i64 (rE .i64 (IntKind.i64.wrap (a.toNat : Int)) 24) (rE .i64 (IntKind.i64.wrap (b.toNat : Int)) 16)) (rE .i64 (IntKind.i64.wrap (c.toNat : Int)) 8)) (IntKind.i64.wrap (d.toNat : Int)) = ((((a.toNat * 256 + b.toNat) * 256 + c.toNat) * 256 + d.toNat : Nat) : Int) := by
 have ha := a.toNat_lt; have hb := b.toNat_lt; have hc := c.toNat_lt; have hd := d.toNat_lt;rw [iE (x := (a.toNat : Int)) (by omega), iE (x := (b.toNat : Int)) (by omega), iE (x := (c.toNat : Int)) (by omega), iE (x := (d.toNat : Int)) (by omega)];rw [show (24 : Int) = ((24 : Nat) : Int) from rfl, show (16 : Int) = ((16 : Nat) : Int) from rfl, show (8 : Int) = ((8 : Nat) : Int) from rfl];rw [BI (h := a.toNat) (k := 24) (by decide) (by omega), BI (h := b.toNat) (k := 16) (by decide) (by omega), BI (h := c.toNat) (k := 8) (by decide) (by omega)];rw [Jo (h := a.toNat) (d := 24) (e := b.toNat * 2 ^ 16) (by omega) (by omega)];rw [show a.toNat * 2 ^ 24 + b.toNat * 2 ^ 16 = (a.toNat * 256 + b.toNat) * 2 ^ 16 by omega, Jo (h := a.toNat * 256 + b.toNat) (d := 16) (e := c.toNat * 2 ^ 8) (by omega) (by omega)];rw [show (a.toNat * 256 + b.toNat) * 2 ^ 16 + c.toNat * 2 ^ 8 = ((a.toNat * 256 + b.toNat) * 256 + c.toNat) * 2 ^ 8 by omega, Jo (h := (a.toNat * 256 + b.toNat) * 256 + c.toNat) (d := 8) (e := d.toNat) (by omega) (by omega)]
theorem DR (N : Nat) (S : List UInt8) : aD N S false = some (match yE S with | none => (0, S, true) | some (n, t) => (n, t, false)) := by
 unfold aD;rw [cF rfl]
 rcases S with _ | ⟨a, _ | ⟨b, _ | ⟨c, _ | ⟨d, t⟩⟩⟩⟩
 ·rfl
 ·rfl
 ·rfl
 ·rfl
 have ha := a.toNat_lt; have hb := b.toNat_lt; have hc := c.toNat_lt; have hd := d.toNat_lt;rw [cF (dF (by simp; omega)), show idx (a :: b :: c :: d :: t) 0 = some a from rfl, aC, show idx (a :: b :: c :: d :: t) 1 = some b from rfl, aC, show idx (a :: b :: c :: d :: t) 2 = some c from rfl, aC, aC, show idx (a :: b :: c :: d :: t) 3 = some d from rfl, aC, aC, or4, DK (by simp; omega), aC];have e : (List.take (((a :: b :: c :: d :: t).length : Int)).toNat (a :: b :: c :: d :: t)).drop (4 : Int).toNat = t := by rw [Int.toNat_natCast, List.take_length]; rfl
 rw [e];show _ = some (v32 a b c d, t, false);unfold v32
 by_cases q : (a.toNat : Int) < 128
 ·rw [if_pos q, cF (dF (by omega))]
  congr 2; omega
 ·rw [if_neg q, cT (dT (by omega)), iE (by omega), aC]
  congr 2; omega
def Wl {α β : Type} (kk : List α × List UInt8 × Bool × Int → Option β) (l : List α) (bad : Option β) : Option (List α × List UInt8) → Option β
 | none => bad
 | some (m, u) => kk (l ++ m, u, false, 0)
section
variable {β : Type}
def GD (no : Option β) (e : List UInt8 → Bool → Option β) (f : List UInt8 → Option β) : Prop := (∀ S, e S true = no) ∧ ∀ S, e S false = f S
variable {γ : Type} {out : Option γ → Option β} {no : Option β} {N : Nat}
theorem GN (hno : out none = no) {k : Int × List UInt8 × Bool → Option β} {g : Int × List UInt8 → Option γ} (h : ∀ n, GD no (fun S b => k (n, S, b)) (fun S => out (g (n, S)))) : GD no (fun S b => Option.bind (aD N S b) k) (fun S => out ((yE S).bind g)) := by
 refine ⟨fun S => ?_, fun S => ?_⟩
 ·dsimp only
  rw [IT, aC]; exact (h 0).1 S
 ·dsimp only
  rw [DR, aC]
  rcases yE S with _ | ⟨n, t⟩
  ·exact ((h 0).1 S).trans hno.symm
  ·exact (h n).2 t
theorem NM (S : List UInt8) : ∃ n, eO N S true = some (n, S, true) ∧ n = 0 := by
 unfold eO;rw [IT, aC]
 by_cases q : (S.length : Int) < 0
 ·omega
 ·rw [cF (by rfl), cF (dF q), cT rfl]; exact ⟨_, rfl, rfl⟩
theorem Qq (S : List UInt8) : ∃ n t b, eO N S false = some (n, t, b) ∧ ((Vf S = none ∧ n = 0 ∧ b = true) ∨ ∃ m, Vf S = some (m, t) ∧ n = (m : Int) ∧ b = false) := by
 unfold eO Vf;rw [DR, aC]
 rcases yE S with _ | ⟨n, t⟩
 ·by_cases q : (S.length : Int) < 0
  ·omega
  ·dsimp only
   rw [cF (by rfl), cF (dF q), cT rfl]; exact ⟨_, _, _, rfl, .inl ⟨rfl, rfl, rfl⟩⟩
 dsimp only
 rw [aC]
 dsimp only
 by_cases q1 : n < 0
 ·rw [cT (dT q1), if_neg (fun q => by have := q.1; omega)];exact ⟨_, _, _, rfl, .inl ⟨rfl, rfl, rfl⟩⟩
 rw [cF (dF q1)]
 by_cases q2 : (t.length : Int) < n
 ·rw [cT (dT q2), if_neg (fun q => by have := q.2; omega)];exact ⟨_, _, _, rfl, .inl ⟨rfl, rfl, rfl⟩⟩
 rw [cF (dF q2), cF rfl, if_pos ⟨by omega, by omega⟩];exact ⟨_, _, _, rfl, .inr ⟨n.toNat, rfl, by omega, rfl⟩⟩
theorem Ua (S : List UInt8) : gS N S true = some ([], S, true) := by
 unfold gS;obtain ⟨n, h, _⟩ := NM (N := N) S;rw [h, aC]; rfl
theorem Qr (S : List UInt8) : ∃ t, gS N S false = some (match KY S with | none => ([], t, true) | some (x, u) => (x, u, false)) := by
 unfold gS KY;obtain ⟨n, t, b, h, ⟨h1, rfl, rfl⟩ | ⟨m, h1, rfl, rfl⟩⟩ := Qq (N := N) S
 ·rw [h, aC, h1]; exact ⟨_, rfl⟩
 ·have hm := (IF h1).2.2;rw [h, aC, h1]
  dsimp only
  rw [cT (by rfl), DK (by omega), aC, DK (by omega), aC];refine ⟨[], ?_⟩;show _ = some (t.take m, t.drop m, false);rw [Int.toNat_natCast, Int.toNat_natCast, List.take_length, show ((0 : Int)).toNat = 0 from rfl, List.drop_zero]
theorem GT (hno : out none = no) {k : List UInt8 × List UInt8 × Bool → Option β} {g : List UInt8 × List UInt8 → Option γ} (h : ∀ n, GD no (fun S b => k (n, S, b)) (fun S => out (g (n, S)))) : GD no (fun S b => Option.bind (gS N S b) k) (fun S => out ((KY S).bind g)) := by
 refine ⟨fun S => ?_, fun S => ?_⟩
 ·dsimp only
  rw [Ua, aC]; exact (h []).1 S
 ·dsimp only
  obtain ⟨t, ht⟩ := Qr (N := N) S;rw [ht, aC]
  rcases KY S with _ | ⟨n, u⟩
  ·exact ((h []).1 t).trans hno.symm
  ·exact (h n).2 u
theorem GL (hN : 2147483655 ≤ N) (hno : out none = no) {α : Type} {f : List UInt8 → Option (α × List UInt8)} {lp : (List α × List UInt8 × Bool × Int → Option β) → Nat → List α × List UInt8 × Bool × Int → Option β} {kk : List α × List UInt8 × Bool × Int → Option β} {g : List α × List UInt8 → Option γ}
  (hbad : ∀ (fuel : Nat) (l : List α) (t : List UInt8) (i : Int), lp kk (fuel + 1) (l, t, true, i) = kk (l, t, true, i))
  (hl : ∀ (j fuel : Nat) (l : List α) (t : List UInt8), l.length + j < 2147483648 → j + 1 < fuel → ∃ l2 t2 i2, lp kk fuel (l, t, false, (j : Int)) = Wl kk l (kk (l2, t2, true, i2)) (C4 f j t))
  (h : ∀ l i, GD no (fun S b => kk (l, S, b, i)) (fun S => out (g (l, S)))) : GD no (fun S b => Option.bind (eO N S b) fun r8 => lp kk N ([], r8.2.1, r8.2.2, r8.1)) (fun S => out ((Kq f S).bind g)) := by
 obtain ⟨M, rfl⟩ : ∃ q, N = q + 1 := ⟨N - 1, by omega⟩
 refine ⟨fun S => ?_, fun S => ?_⟩
 ·dsimp only
  obtain ⟨n, hc, rfl⟩ := NM (N := M + 1) S;rw [hc, aC]
  dsimp only
  rw [hbad]; exact (h [] 0).1 S
 ·dsimp only
  unfold Kq;obtain ⟨n, t, b, hc, ⟨h1, rfl, rfl⟩ | ⟨m, h1, rfl, rfl⟩⟩ := Qq (N := M + 1) S
  ·rw [hc, aC, h1]
   dsimp only
   rw [hbad]; exact ((h [] 0).1 t).trans hno.symm
  ·have hm := (IF h1).2.1;rw [hc, aC, h1]
   dsimp only
   obtain ⟨l2, t2, i2, hh⟩ := hl m (M + 1) [] t (by simp; omega) (by omega);refine hh.trans ?_;show _ = out ((C4 f m t).bind g)
   rcases C4 f m t with _ | ⟨x, u⟩
   ·exact ((h l2 i2).1 t2).trans hno.symm
   ·exact (h _ 0).2 u
end
theorem Qs (N : Nat) (kk) (fuel : Nat) (l : List Int) (t : List UInt8) (i : Int) : gW N kk (fuel + 1) (l, t, true, i) = kk (l, t, true, i) := by
 unfold gW
 by_cases q : 0 < i
 ·rw [cT (dT q), cF (by rfl)]
 ·rw [cF (dF q)]
theorem aBn (N : Nat) (kk) : ∀ (j fuel : Nat) (l : List Int) (t : List UInt8), l.length + j < 2147483648 → j + 1 < fuel → ∃ l2 t2 i2, gW N kk fuel (l, t, false, (j : Int)) = Wl kk l (kk (l2, t2, true, i2)) (C4 yE j t) := by
 intro j
 induction j with
 | zero =>
  intro fuel l t hl hf;obtain ⟨fuel, rfl⟩ := mN fuel (by omega);unfold gW;rw [cF (by rfl)];refine ⟨[], [], 0, ?_⟩;show kk _ = kk _;rw [List.append_nil]; rfl
 | succ j ih =>
  intro fuel l t hl hf;obtain ⟨fuel, rfl⟩ : ∃ q, fuel = q + 1 + 1 := ⟨fuel - 2, by omega⟩
  have hj : IntKind.i64.wrap (((j + 1 : Nat) : Int) - 1) = (j : Int) := by rw [iE (by omega)]; omega
  unfold gW C4;rw [cT (dT (by omega)), cT (by rfl)];rw [DR, aC]
  rcases yE t with _ | ⟨x, u⟩
  ·dsimp only
   rw [kY (by simp; omega), aC, hj, aC, Qs];exact ⟨_, _, _, rfl⟩
  dsimp only
  rw [kY (by simp; omega), aC, hj, aC];obtain ⟨l2, t2, i2, hh⟩ := ih (fuel + 1) (l ++ [x]) u (by simp; omega) (by omega);refine ⟨l2, t2, i2, hh.trans ?_⟩;show _ = Wl kk l (kk (l2, t2, true, i2)) ((C4 yE j u).bind fun q => some (x :: q.1, q.2))
  rcases C4 yE j u with _ | ⟨m, v⟩
  ·rfl
  ·show kk _ = kk _;rw [List.append_assoc]; rfl
theorem Qt (N : Nat) (kk) (fuel : Nat) (l : List (List UInt8)) (t : List UInt8) (i : Int) : gV N kk (fuel + 1) (l, t, true, i) = kk (l, t, true, i) := by
 unfold gV
 by_cases q : 0 < i
 ·rw [cT (dT q), cF (by rfl)]
 ·rw [cF (dF q)]
theorem aBo (N : Nat) (kk) : ∀ (j fuel : Nat) (l : List (List UInt8)) (t : List UInt8), l.length + j < 2147483648 → j + 1 < fuel → ∃ l2 t2 i2, gV N kk fuel (l, t, false, (j : Int)) = Wl kk l (kk (l2, t2, true, i2)) (C4 KY j t) := by
 intro j
 induction j with
 | zero =>
  intro fuel l t hl hf;obtain ⟨fuel, rfl⟩ := mN fuel (by omega);unfold gV;rw [cF (by rfl)];refine ⟨[], [], 0, ?_⟩;show kk _ = kk _;rw [List.append_nil]; rfl
 | succ j ih =>
  intro fuel l t hl hf;obtain ⟨fuel, rfl⟩ : ∃ q, fuel = q + 1 + 1 := ⟨fuel - 2, by omega⟩
  have hj : IntKind.i64.wrap (((j + 1 : Nat) : Int) - 1) = (j : Int) := by rw [iE (by omega)]; omega
  unfold gV C4;rw [cT (dT (by omega)), cT (by rfl)];obtain ⟨t0, ht⟩ := Qr (N := N) t;rw [ht, aC]
  rcases KY t with _ | ⟨x, u⟩
  ·dsimp only
   rw [kY (by simp; omega), aC, hj, aC, Qt];exact ⟨_, _, _, rfl⟩
  dsimp only
  rw [kY (by simp; omega), aC, hj, aC];obtain ⟨l2, t2, i2, hh⟩ := ih (fuel + 1) (l ++ [x]) u (by simp; omega) (by omega);refine ⟨l2, t2, i2, hh.trans ?_⟩;show _ = Wl kk l (kk (l2, t2, true, i2)) ((C4 KY j u).bind fun q => some (x :: q.1, q.2))
  rcases C4 KY j u with _ | ⟨m, v⟩
  ·rfl
  ·show kk _ = kk _;rw [List.append_assoc]; rfl
theorem Mm (N : Nat) (kk) (fuel : Nat) (l : List (Int × Int)) (t : List UInt8) (i : Int) : gU N kk (fuel + 1) (l, t, true, i) = kk (l, t, true, i) := by
 unfold gU
 by_cases q : 0 < i
 ·rw [cT (dT q), cF (by rfl)]
 ·rw [cF (dF q)]
theorem aBp (N : Nat) (kk) : ∀ (j fuel : Nat) (l : List (Int × Int)) (t : List UInt8), l.length + j < 2147483648 → j + 1 < fuel → ∃ l2 t2 i2, gU N kk fuel (l, t, false, (j : Int)) = Wl kk l (kk (l2, t2, true, i2)) (C4 Kp j t) := by
 intro j
 induction j with
 | zero =>
  intro fuel l t hl hf;obtain ⟨fuel, rfl⟩ := mN fuel (by omega);unfold gU;rw [cF (by rfl)];refine ⟨[], [], 0, ?_⟩;show kk _ = kk _;rw [List.append_nil]; rfl
 | succ j ih =>
  intro fuel l t hl hf;obtain ⟨fuel, rfl⟩ : ∃ q, fuel = q + 1 + 1 := ⟨fuel - 2, by omega⟩
  have hj : IntKind.i64.wrap (((j + 1 : Nat) : Int) - 1) = (j : Int) := by rw [iE (by omega)]; omega
  unfold gU C4;rw [cT (dT (by omega)), cT (by rfl)];rw [DR, aC];rw [show Kp t = ((yE t).bind fun p => (yE p.2).bind fun q => some ((p.1, q.1), q.2)) from rfl]
  rcases yE t with _ | ⟨x, u⟩
  ·dsimp only
   rw [IT, aC]
   dsimp only
   rw [kY (by simp; omega), aC, hj, aC, Mm];exact ⟨_, _, _, rfl⟩
  dsimp only
  rw [DR, aC];simp only [Option.bind_some]
  rcases yE u with _ | ⟨y, v⟩
  ·dsimp only
   rw [kY (by simp; omega), aC, hj, Mm];exact ⟨_, _, _, rfl⟩
  dsimp only
  rw [kY (by simp; omega), aC, hj];obtain ⟨l2, t2, i2, hh⟩ := ih (fuel + 1) (l ++ [(x, y)]) v (by simp; omega) (by omega);refine ⟨l2, t2, i2, hh.trans ?_⟩;show _ = Wl kk l (kk (l2, t2, true, i2)) ((C4 Kp j v).bind fun q => some ((x, y) :: q.1, q.2))
  rcases C4 Kp j v with _ | ⟨m, z⟩
  ·rfl
  ·show kk _ = kk _;rw [List.append_assoc]; rfl
theorem Mn (N : Nat) (kk) (fuel : Nat) (l : List (Int × Int)) (t : List UInt8) (i : Int) : gT N kk (fuel + 1) (l, t, true, i) = kk (l, t, true, i) := by
 unfold gT
 by_cases q : 0 < i
 ·rw [cT (dT q), cF (by rfl)]
 ·rw [cF (dF q)]
theorem aBq (N : Nat) (kk) : ∀ (j fuel : Nat) (l : List (Int × Int)) (t : List UInt8), l.length + j < 2147483648 → j + 1 < fuel → ∃ l2 t2 i2, gT N kk fuel (l, t, false, (j : Int)) = Wl kk l (kk (l2, t2, true, i2)) (C4 Kp j t) := by
 intro j
 induction j with
 | zero =>
  intro fuel l t hl hf;obtain ⟨fuel, rfl⟩ := mN fuel (by omega);unfold gT;rw [cF (by rfl)];refine ⟨[], [], 0, ?_⟩;show kk _ = kk _;rw [List.append_nil]; rfl
 | succ j ih =>
  intro fuel l t hl hf;obtain ⟨fuel, rfl⟩ : ∃ q, fuel = q + 1 + 1 := ⟨fuel - 2, by omega⟩
  have hj : IntKind.i64.wrap (((j + 1 : Nat) : Int) - 1) = (j : Int) := by rw [iE (by omega)]; omega
  unfold gT C4;rw [cT (dT (by omega)), cT (by rfl)];rw [DR, aC];rw [show Kp t = ((yE t).bind fun p => (yE p.2).bind fun q => some ((p.1, q.1), q.2)) from rfl]
  rcases yE t with _ | ⟨x, u⟩
  ·dsimp only
   rw [IT, aC]
   dsimp only
   rw [kY (by simp; omega), aC, hj, aC, Mn];exact ⟨_, _, _, rfl⟩
  dsimp only
  rw [DR, aC];simp only [Option.bind_some]
  rcases yE u with _ | ⟨y, v⟩
  ·dsimp only
   rw [kY (by simp; omega), aC, hj, Mn];exact ⟨_, _, _, rfl⟩
  dsimp only
  rw [kY (by simp; omega), aC, hj];obtain ⟨l2, t2, i2, hh⟩ := ih (fuel + 1) (l ++ [(x, y)]) v (by simp; omega) (by omega);refine ⟨l2, t2, i2, hh.trans ?_⟩;show _ = Wl kk l (kk (l2, t2, true, i2)) ((C4 Kp j v).bind fun q => some ((x, y) :: q.1, q.2))
  rcases C4 Kp j v with _ | ⟨m, z⟩
  ·rfl
  ·show kk _ = kk _;rw [List.append_assoc]; rfl
theorem aBr (N : Nat) (kk) (fuel : Nat) (S : List UInt8) (b : Bool) (x0 x1 x2 x3 : Int) : bZ N kk (fuel + 1) (S, b, x0, x1, x2, x3, 0) = Option.bind (aD N S b) fun r => bZ N kk fuel (r.2.1, r.2.2, r.1, x1, x2, x3, 1) := by
 conv => lhs; unfold bZ
 rw [cT (by rfl)]
 rfl
theorem aBs (N : Nat) (kk) (fuel : Nat) (S : List UInt8) (b : Bool) (x0 x1 x2 x3 : Int) : bZ N kk (fuel + 1) (S, b, x0, x1, x2, x3, 1) = Option.bind (aD N S b) fun r => bZ N kk fuel (r.2.1, r.2.2, x0, r.1, x2, x3, 2) := by
 conv => lhs; unfold bZ
 rw [cT (by rfl)]
 rfl
theorem aBt (N : Nat) (kk) (fuel : Nat) (S : List UInt8) (b : Bool) (x0 x1 x2 x3 : Int) : bZ N kk (fuel + 1) (S, b, x0, x1, x2, x3, 2) = Option.bind (aD N S b) fun r => bZ N kk fuel (r.2.1, r.2.2, x0, x1, r.1, x3, 3) := by
 conv => lhs; unfold bZ
 rw [cT (by rfl)]
 rfl
theorem aBu (N : Nat) (kk) (fuel : Nat) (S : List UInt8) (b : Bool) (x0 x1 x2 x3 : Int) : bZ N kk (fuel + 1) (S, b, x0, x1, x2, x3, 3) = Option.bind (aD N S b) fun r => bZ N kk fuel (r.2.1, r.2.2, x0, x1, x2, r.1, 4) := by
 conv => lhs; unfold bZ
 rw [cT (by rfl)]
 rfl
theorem aBv (N : Nat) (kk) (fuel : Nat) (S : List UInt8) (b : Bool) (x0 x1 x2 x3 : Int) : bZ N kk (fuel + 1) (S, b, x0, x1, x2, x3, 4) = kk (S, b, x0, x1, x2, x3, 4) := by
 conv => lhs; unfold bZ
 rw [cF (by rfl)]
theorem aBw (N : Nat) (kk) (fuel : Nat) (S : List UInt8) (b : Bool) (x0 x1 x2 : Int) : cU N kk (fuel + 1) (S, b, x0, x1, x2, 0) = Option.bind (aD N S b) fun r => cU N kk fuel (r.2.1, r.2.2, r.1, x1, x2, 1) := by
 conv => lhs; unfold cU
 rw [cT (by rfl)]
 rfl
theorem aBx (N : Nat) (kk) (fuel : Nat) (S : List UInt8) (b : Bool) (x0 x1 x2 : Int) : cU N kk (fuel + 1) (S, b, x0, x1, x2, 1) = Option.bind (aD N S b) fun r => cU N kk fuel (r.2.1, r.2.2, x0, r.1, x2, 2) := by
 conv => lhs; unfold cU
 rw [cT (by rfl)]
 rfl
theorem aBy (N : Nat) (kk) (fuel : Nat) (S : List UInt8) (b : Bool) (x0 x1 x2 : Int) : cU N kk (fuel + 1) (S, b, x0, x1, x2, 2) = Option.bind (aD N S b) fun r => cU N kk fuel (r.2.1, r.2.2, x0, x1, r.1, 3) := by
 conv => lhs; unfold cU
 rw [cT (by rfl)]
 rfl
theorem aBz (N : Nat) (kk) (fuel : Nat) (S : List UInt8) (b : Bool) (x0 x1 x2 : Int) : cU N kk (fuel + 1) (S, b, x0, x1, x2, 3) = kk (S, b, x0, x1, x2, 3) := by
 conv => lhs; unfold cU
 rw [cF (by rfl)]
theorem aBA (N : Nat) (kk) (fuel : Nat) (S : List UInt8) (b : Bool) (x0 x1 x2 x3 x4 x5 x6 x7 x8 : Int) : aH N kk (fuel + 1) (S, b, x0, x1, x2, x3, x4, x5, x6, x7, x8, 0) = Option.bind (aD N S b) fun r => aH N kk fuel (r.2.1, r.2.2, r.1, x1, x2, x3, x4, x5, x6, x7, x8, 1) := by
 conv => lhs; unfold aH
 rw [cT (by rfl)]
 rfl
theorem aBB (N : Nat) (kk) (fuel : Nat) (S : List UInt8) (b : Bool) (x0 x1 x2 x3 x4 x5 x6 x7 x8 : Int) : aH N kk (fuel + 1) (S, b, x0, x1, x2, x3, x4, x5, x6, x7, x8, 1) = Option.bind (aD N S b) fun r => aH N kk fuel (r.2.1, r.2.2, x0, r.1, x2, x3, x4, x5, x6, x7, x8, 2) := by
 conv => lhs; unfold aH
 rw [cT (by rfl)]
 rfl
theorem aBC (N : Nat) (kk) (fuel : Nat) (S : List UInt8) (b : Bool) (x0 x1 x2 x3 x4 x5 x6 x7 x8 : Int) : aH N kk (fuel + 1) (S, b, x0, x1, x2, x3, x4, x5, x6, x7, x8, 2) = Option.bind (aD N S b) fun r => aH N kk fuel (r.2.1, r.2.2, x0, x1, r.1, x3, x4, x5, x6, x7, x8, 3) := by
 conv => lhs; unfold aH
 rw [cT (by rfl)]
 rfl
theorem aBD (N : Nat) (kk) (fuel : Nat) (S : List UInt8) (b : Bool) (x0 x1 x2 x3 x4 x5 x6 x7 x8 : Int) : aH N kk (fuel + 1) (S, b, x0, x1, x2, x3, x4, x5, x6, x7, x8, 3) = Option.bind (aD N S b) fun r => aH N kk fuel (r.2.1, r.2.2, x0, x1, x2, r.1, x4, x5, x6, x7, x8, 4) := by
 conv => lhs; unfold aH
 rw [cT (by rfl)]
 rfl
theorem aBE (N : Nat) (kk) (fuel : Nat) (S : List UInt8) (b : Bool) (x0 x1 x2 x3 x4 x5 x6 x7 x8 : Int) : aH N kk (fuel + 1) (S, b, x0, x1, x2, x3, x4, x5, x6, x7, x8, 4) = Option.bind (aD N S b) fun r => aH N kk fuel (r.2.1, r.2.2, x0, x1, x2, x3, r.1, x5, x6, x7, x8, 5) := by
 conv => lhs; unfold aH
 rw [cT (by rfl)]
 rfl
theorem aBF (N : Nat) (kk) (fuel : Nat) (S : List UInt8) (b : Bool) (x0 x1 x2 x3 x4 x5 x6 x7 x8 : Int) : aH N kk (fuel + 1) (S, b, x0, x1, x2, x3, x4, x5, x6, x7, x8, 5) = Option.bind (aD N S b) fun r => aH N kk fuel (r.2.1, r.2.2, x0, x1, x2, x3, x4, r.1, x6, x7, x8, 6) := by
 conv => lhs; unfold aH
 rw [cT (by rfl)]
 rfl
theorem aBG (N : Nat) (kk) (fuel : Nat) (S : List UInt8) (b : Bool) (x0 x1 x2 x3 x4 x5 x6 x7 x8 : Int) : aH N kk (fuel + 1) (S, b, x0, x1, x2, x3, x4, x5, x6, x7, x8, 6) = Option.bind (aD N S b) fun r => aH N kk fuel (r.2.1, r.2.2, x0, x1, x2, x3, x4, x5, r.1, x7, x8, 7) := by
 conv => lhs; unfold aH
 rw [cT (by rfl)]
 rfl
theorem aBH (N : Nat) (kk) (fuel : Nat) (S : List UInt8) (b : Bool) (x0 x1 x2 x3 x4 x5 x6 x7 x8 : Int) : aH N kk (fuel + 1) (S, b, x0, x1, x2, x3, x4, x5, x6, x7, x8, 7) = Option.bind (aD N S b) fun r => aH N kk fuel (r.2.1, r.2.2, x0, x1, x2, x3, x4, x5, x6, r.1, x8, 8) := by
 conv => lhs; unfold aH
 rw [cT (by rfl)]
 rfl
theorem aBI (N : Nat) (kk) (fuel : Nat) (S : List UInt8) (b : Bool) (x0 x1 x2 x3 x4 x5 x6 x7 x8 : Int) : aH N kk (fuel + 1) (S, b, x0, x1, x2, x3, x4, x5, x6, x7, x8, 8) = Option.bind (aD N S b) fun r => aH N kk fuel (r.2.1, r.2.2, x0, x1, x2, x3, x4, x5, x6, x7, r.1, 9) := by
 conv => lhs; unfold aH
 rw [cT (by rfl)]
 rfl
theorem aBJ (N : Nat) (kk) (fuel : Nat) (S : List UInt8) (b : Bool) (x0 x1 x2 x3 x4 x5 x6 x7 x8 : Int) : aH N kk (fuel + 1) (S, b, x0, x1, x2, x3, x4, x5, x6, x7, x8, 9) = kk (S, b, x0, x1, x2, x3, x4, x5, x6, x7, x8, 9) := by
 conv => lhs; unfold aH
 rw [cF (by rfl)]
theorem aBK (N : Nat) (hN : 20 ≤ N) (kk) (S : List UInt8) (b : Bool) (x0 x1 x2 x3 : Int) : bZ N kk N (S, b, x0, x1, x2, x3, 0) = Option.bind (aD N S b) fun r0 => Option.bind (aD N r0.2.1 r0.2.2) fun r1 => Option.bind (aD N r1.2.1 r1.2.2) fun r2 => Option.bind (aD N r2.2.1 r2.2.2) fun r3 => kk (r3.2.1, r3.2.2, r0.1, r1.1, r2.1, r3.1, 4) := by
 obtain ⟨M, hM⟩ : ∃ q, N = q + 5 := ⟨N - 5, by omega⟩
 have e : bZ N kk N (S, b, x0, x1, x2, x3, 0) = bZ N kk (M + 5) (S, b, x0, x1, x2, x3, 0) := congrFun (congrArg (bZ N kk) hM) _;rw [e, aBr];refine congrArg (Option.bind _) (funext fun r0 => ?_);rw [aBs];refine congrArg (Option.bind _) (funext fun r1 => ?_);rw [aBt];refine congrArg (Option.bind _) (funext fun r2 => ?_);rw [aBu];refine congrArg (Option.bind _) (funext fun r3 => ?_);rw [aBv]
theorem aBL (N : Nat) (hN : 20 ≤ N) (kk) (S : List UInt8) (b : Bool) (x0 x1 x2 : Int) : cU N kk N (S, b, x0, x1, x2, 0) = Option.bind (aD N S b) fun r0 => Option.bind (aD N r0.2.1 r0.2.2) fun r1 => Option.bind (aD N r1.2.1 r1.2.2) fun r2 => kk (r2.2.1, r2.2.2, r0.1, r1.1, r2.1, 3) := by
 obtain ⟨M, hM⟩ : ∃ q, N = q + 4 := ⟨N - 4, by omega⟩
 have e : cU N kk N (S, b, x0, x1, x2, 0) = cU N kk (M + 4) (S, b, x0, x1, x2, 0) := congrFun (congrArg (cU N kk) hM) _;rw [e, aBw];refine congrArg (Option.bind _) (funext fun r0 => ?_);rw [aBx];refine congrArg (Option.bind _) (funext fun r1 => ?_);rw [aBy];refine congrArg (Option.bind _) (funext fun r2 => ?_);rw [aBz]
theorem aBM (N : Nat) (hN : 20 ≤ N) (kk) (S : List UInt8) (b : Bool) (x0 x1 x2 x3 x4 x5 x6 x7 x8 : Int) : aH N kk N (S, b, x0, x1, x2, x3, x4, x5, x6, x7, x8, 0) = Option.bind (aD N S b) fun r0 => Option.bind (aD N r0.2.1 r0.2.2) fun r1 => Option.bind (aD N r1.2.1 r1.2.2) fun r2 => Option.bind (aD N r2.2.1 r2.2.2) fun r3 => Option.bind (aD N r3.2.1 r3.2.2) fun r4 => Option.bind (aD N r4.2.1 r4.2.2) fun r5 => Option.bind (aD N r5.2.1 r5.2.2) fun r6 => Option.bind (aD N r6.2.1 r6.2.2) fun r7 => Option.bind (aD N r7.2.1 r7.2.2) fun r8 => kk (r8.2.1, r8.2.2, r0.1, r1.1, r2.1, r3.1, r4.1, r5.1, r6.1, r7.1, r8.1, 9) := by
 obtain ⟨M, hM⟩ : ∃ q, N = q + 10 := ⟨N - 10, by omega⟩
 have e : aH N kk N (S, b, x0, x1, x2, x3, x4, x5, x6, x7, x8, 0) = aH N kk (M + 10) (S, b, x0, x1, x2, x3, x4, x5, x6, x7, x8, 0) := congrFun (congrArg (aH N kk) hM) _;rw [e, aBA];refine congrArg (Option.bind _) (funext fun r0 => ?_);rw [aBB];refine congrArg (Option.bind _) (funext fun r1 => ?_);rw [aBC];refine congrArg (Option.bind _) (funext fun r2 => ?_);rw [aBD];refine congrArg (Option.bind _) (funext fun r3 => ?_);rw [aBE];refine congrArg (Option.bind _) (funext fun r4 => ?_);rw [aBF];refine congrArg (Option.bind _) (funext fun r5 => ?_);rw [aBG];refine congrArg (Option.bind _) (funext fun r6 => ?_);rw [aBH];refine congrArg (Option.bind _) (funext fun r7 => ?_);rw [aBI];refine congrArg (Option.bind _) (funext fun r8 => ?_);rw [aBJ]
theorem YZ {β γ : Type} {out : Option γ → Option β} {no : Option β} {N : Nat} (hno : out none = no) {k : List UInt8 × List UInt8 × Bool → Option β} {g : List UInt8 × List UInt8 → Option γ} (h : ∀ n, GD no (fun S b => k (n, S, b)) (fun S => out (g (n, S)))) (S : List UInt8) : Option.bind (gS N S false) k = out ((KY S).bind g) := (GT (N := N) hno h).2 S
abbrev aBN := Int × Int × Int × Int × Int × List Int × List (List UInt8) × Int × Int × Int × Int × Int × Int × List (Int × Int) × Int × Int × Int × Int × Int × Int × Int × Int × Int × Int × Int × Int × List (Int × Int) × Int × Bool
def Hj : Option aBN := (some (0, 0, 0, 0, 0, ([] : List Int), ([] : List (List UInt8)), 0, 0, 0, 0, 0, 0, ([] : List (Int × Int)), 0, 0, 0, 0, 0, 0, 0, 0, 0, 0, 0, 0, ([] : List (Int × Int)), 0, false))
def xG (N : Nat) : Option (Ym × List UInt8) → Option aBN
 | none => Hj
 | some ((W, H, D, K, R, Ls, St, ph, b0, b1, b2, b3, w, sp, g0, g1, g2, m0, m1, m2, m3, m4, m5, m6, m7, m8, cv, am), t) =>
  cond (!decide (t = ([] : List UInt8))) Hj (Option.bind (j5 N W H D K R Ls St ph b0 b1 b2 b3 w sp g0 g1 g2 m0 m1 m2 m3 m4 m5 m6 m7 m8 cv am) fun r => cond (!decide (r.2.2.2 = 0)) Hj (some (W, H, D, K, R, Ls, St, ph, b0, b1, b2, b3, w, sp, g0, g1, g2, m0, m1, m2, m3, m4, m5, m6, m7, m8, cv, am, true)))
theorem Mo (N : Nat) (hN : 2147483655 ≤ N) (s : List UInt8) : jF N s = xG N (OW s) := by
 have no : xG N none = Hj := rfl;have h20 : 20 ≤ N := by omega
 unfold jF OW;refine YZ (out := xG N) no (fun m => ?_) s
 dsimp only
 by_cases hm : m = [100, 97, 114, 107]
 rotate_left
 ·refine ⟨fun S => ?_, fun S => ?_⟩
  ·dsimp only
   rw [cT (by rw [dF hm]; rfl)]; rfl
  ·dsimp only
   rw [cT (by rw [dF hm]; rfl), if_pos (show m ≠ CE from hm)]; rfl
 have hc : ∀ {δ : Type} (x y : δ), cond (!decide (m = [100, 97, 114, 107])) x y = y := fun x y => cF (by rw [dT hm]; rfl) x y
 simp only [hc, if_neg (show ¬ m ≠ CE from fun q => q hm)];refine GN (out := xG N) no fun W => ?_
 dsimp only
 refine GN (out := xG N) no fun H => ?_
 dsimp only
 refine GN (out := xG N) no fun D => ?_
 dsimp only
 refine GN (out := xG N) no fun K => ?_
 dsimp only
 refine GN (out := xG N) no fun R => ?_
 dsimp only
 refine GL (out := xG N) hN no (lp := gW N) (Qs N _) (aBn N _) fun Ls i => ?_
 dsimp only
 refine GL (out := xG N) hN no (lp := gV N) (Qt N _) (aBo N _) fun St i => ?_
 dsimp only
 refine GN (out := xG N) no fun ph => ?_
 dsimp only
 simp only [aBK N h20];refine GN (out := xG N) no fun b0 => ?_
 dsimp only
 refine GN (out := xG N) no fun b1 => ?_
 dsimp only
 refine GN (out := xG N) no fun b2 => ?_
 dsimp only
 refine GN (out := xG N) no fun b3 => ?_
 dsimp only
 refine GN (out := xG N) no fun w => ?_
 dsimp only
 refine GL (out := xG N) hN no (lp := gU N) (Mm N _) (aBp N _) fun sp i => ?_
 dsimp only
 simp only [aBL N h20];refine GN (out := xG N) no fun g0 => ?_
 dsimp only
 refine GN (out := xG N) no fun g1 => ?_
 dsimp only
 refine GN (out := xG N) no fun g2 => ?_
 dsimp only
 simp only [aBM N h20];refine GN (out := xG N) no fun m0 => ?_
 dsimp only
 refine GN (out := xG N) no fun m1 => ?_
 dsimp only
 refine GN (out := xG N) no fun m2 => ?_
 dsimp only
 refine GN (out := xG N) no fun m3 => ?_
 dsimp only
 refine GN (out := xG N) no fun m4 => ?_
 dsimp only
 refine GN (out := xG N) no fun m5 => ?_
 dsimp only
 refine GN (out := xG N) no fun m6 => ?_
 dsimp only
 refine GN (out := xG N) no fun m7 => ?_
 dsimp only
 refine GN (out := xG N) no fun m8 => ?_
 dsimp only
 refine GL (out := xG N) hN no (lp := gT N) (Mn N _) (aBq N _) fun cv i => ?_
 dsimp only
 refine GN (out := xG N) no fun am => ?_
 dsimp only
 exact ⟨fun S => rfl, fun S => rfl⟩
theorem Wm (D : List UInt8) : (W0 D).length = (D.length + 7) / 8 := by unfold W0; rw [List.length_map]; simp [gr]
theorem Ub {W D K rows : Int} {Ls : List Int} {s : List UInt8} {l : List Int} (h : stripR W D K Ls rows s = some l) : s.length ≤ 16384 := by
 unfold stripR at h
 split at h
 ·split at h
  ·rename_i hh
   obtain ⟨d, n, _, _, h1, h2, h3, _⟩ := EG hh;have := Nat.mul_le_mul h2 h1.2
   omega
  ·cases h
 ·split at h
  ·rename_i hh
   have h1 := NF s W rows K Ls hh.1;have h2 := JC s W rows K Ls
   generalize pX s W rows K Ls = r at h1 h2
   unfold DP at h1
   split at h1
   ·injection h1 with _ q; cases q
   split at h1
   ·injection h1 with _ q; cases q
   split at h1
   ·rename_i q1 q2 q3; injection h1 with _ q; exact absurd q q3
   split at h1
   ·injection h1 with q _
    rw [← q, Wm];have := Gq (kZ Ls) (Qj r.1.toNat r.2.2.1 K);rw [Pf] at this
    omega
   ·injection h1 with _ q; cases q
  ·cases h
theorem JE {W D K : Int} {Ls : List Int} {H R : Nat} : ∀ (t : List (List UInt8)) (i : Nat) (acc P : List Int), Ci W D K Ls H R i t acc = some P → ∀ s ∈ t, s.length ≤ 16384
 | [], i, acc, P, h, s, hs => by cases hs
 | s0 :: t, i, acc, P, h, s, hs => by
  unfold Ci at h
  split at h
  ·cases h
  ·rename_i l hl
   rcases List.mem_cons.1 hs with rfl | hs
   ·exact Ub hl
   ·exact JE t (i + 1) _ P h s hs
section
variable (W H D K R : Int) (Ls : List Int) (St : List (List UInt8)) (ph b0 b1 b2 b3 w : Int) (sp : List (Int × Int)) (g0 g1 g2 m0 m1 m2 m3 m4 m5 m6 m7 m8 : Int) (cv : List (Int × Int)) (am : Int)
theorem JF {f : Bool} (hc : f = true ↔ tZ cv) (h : (zN W H D K R Ls St ph b0 b1 b2 b3 w sp g0 g1 g2 m0 m1 m2 m3 m4 m5 m6 m7 m8 am f).2.2.2 = 0) :
  aAE W H D K R Ls St ph b0 b1 b2 b3 w sp g0 g1 g2 m0 m1 m2 m3 m4 m5 m6 m7 m8 cv am ∧ Ls.length ≤ 17 ∧ St.length ≤ 64 ∧ (∀ s ∈ St, s.length ≤ 16384) ∧ sp.length ≤ 64 ∧ cv.length ≤ 16 := by
 unfold zN at h
 by_cases h1 : xU W H D K R Ls = 0
 rotate_left
 ·rw [if_pos h1] at h; exact absurd h h1
 obtain ⟨q1, q2, q3, q4⟩ := Md W H D K R Ls h1;rw [if_neg (fun q => q h1)] at h
 by_cases h2 : St.length = Ch H.toNat R.toNat
 rotate_left
 ·rw [if_pos h2] at h; cases h
 rw [if_neg (fun q => q h2)] at h
 by_cases h3 : JD W H ph b0 b1 b2 b3 w sp g0 g1 g2 m0 m1 m2 m3 m4 m5 m6 m7 m8 am f = 0
 rotate_left
 ·rw [if_pos h3] at h; exact absurd h h3
 rw [if_neg (fun q => q h3)] at h;obtain ⟨p1, p2, p3⟩ := Wh W H ph b0 b1 b2 b3 w sp g0 g1 g2 m0 m1 m2 m3 m4 m5 m6 m7 m8 am h3
 rcases hp : Ci W D K Ls H.toNat R.toNat 0 St [] with _ | P
 ·rw [hp] at h; cases h
 have hall := JE St 0 [] P hp;have hcv := hc.1 p2;have hcl := RG hcv;unfold Cg at q1;have hcn := EH (H := H.toNat) (R := R.toNat) (by omega) (by omega)
 have hLs : ∀ x ∈ Ls, is32 x := by
  intro x hx
  by_cases hK : 0 < K
  ·obtain ⟨ns, rfl, ZS, _⟩ := zK (q4 hK);unfold pW at hx;obtain ⟨n, hn, rfl⟩ := List.mem_map.1 hx;have := ZS n hn;unfold is32; omega
  ·unfold xU at h1;rw [if_neg (fun q => q q1), if_neg (fun q => q q2), if_neg hK] at h1
   split at h1
   ·cases h1
   ·rename_i q
    have : Ls = [] := List.length_eq_zero_iff.1 (by omega);subst this; cases hx
 unfold DZ EB BG at p1;simp only [List.all_cons, List.all_nil, Bool.and_eq_true, decide_eq_true_eq, Bool.and_true, okM] at p1;obtain ⟨a1, a2, ⟨a3, a4, a5, a6⟩, a7, a8, ⟨c1, c2, c3⟩, ⟨e0, e1, e2, e3, e4, e5, e6, e7, e8⟩, a9⟩ := p1
 have hsp : ∀ x ∈ sp, is32 x.1 ∧ is32 x.2 := by
  intro x hx;have := List.all_eq_true.1 a8 x hx;unfold lL at this;simp only [Bool.and_eq_true, decide_eq_true_eq] at this;unfold is32; omega
 have aEn : ∀ x ∈ cv, is32 x.1 ∧ is32 x.2 := by
  intro x hx;obtain ⟨i, hi, rfl⟩ := List.getElem_of_mem hx;have := hcv.bd hi;unfold cX cY at this;rw [List.getD_eq_getElem?_getD, List.getElem?_eq_getElem hi] at this;simp only [Option.getD_some] at this;unfold is32; omega
 refine ⟨⟨⟨?_, ?_, ?_, ?_, ?_⟩, ⟨by omega, hLs⟩, ⟨by omega, fun s hs => by have := hall s hs; omega⟩, ⟨?_, ?_, ?_, ?_, ?_, ?_⟩, ⟨by omega, hsp⟩, ⟨?_, ?_, ?_⟩, ⟨?_, ?_, ?_, ?_, ?_, ?_, ?_, ?_, ?_⟩, ⟨by omega, aEn⟩, ?_⟩, q3, by omega, hall, a7, hcl⟩
 all_goals (unfold is32; omega)
theorem Pj {f : Bool} (hb : mJ 8589934592 cv = some f) (hc : f = true ↔ tZ cv) (hs : ∀ y ∈ St, y.length ≤ 9223372036854775807) : tS 8589934592 W H D K R Ls St ph b0 b1 b2 b3 w sp g0 g1 g2 m0 m1 m2 m3 m4 m5 m6 m7 m8 cv am = some (if (zN W H D K R Ls St ph b0 b1 b2 b3 w sp g0 g1 g2 m0 m1 m2 m3 m4 m5 m6 m7 m8 am f).2.2.2 = 0 then (LJ W H D K R Ls St ph b0 b1 b2 b3 w sp g0 g1 g2 m0 m1 m2 m3 m4 m5 m6 m7 m8 cv am, 0) else ([], (zN W H D K R Ls St ph b0 b1 b2 b3 w sp g0 g1 g2 m0 m1 m2 m3 m4 m5 m6 m7 m8 am f).2.2.2)) := by
 have hck := HY W H D K R Ls St ph b0 b1 b2 b3 w sp g0 g1 g2 m0 m1 m2 m3 m4 m5 m6 m7 m8 cv am hb hc hs
 by_cases h : (zN W H D K R Ls St ph b0 b1 b2 b3 w sp g0 g1 g2 m0 m1 m2 m3 m4 m5 m6 m7 m8 am f).2.2.2 = 0
 ·obtain ⟨_, l1, l2, l3, l4, l5⟩ := JF W H D K R Ls St ph b0 b1 b2 b3 w sp g0 g1 g2 m0 m1 m2 m3 m4 m5 m6 m7 m8 cv am hc h;exact NL W H D K R Ls St ph b0 b1 b2 b3 w sp g0 g1 g2 m0 m1 m2 m3 m4 m5 m6 m7 m8 cv am 8589934592 (by decide) (by omega) (by omega) (fun s q => by have := l3 s q; omega) (by omega) (by omega) hck
 ·unfold tS;rw [hck, aC, cT (by rw [dF h]; rfl), if_neg h]
end
theorem Pk (s : List UInt8) : (tY 8589934592 s = AC ∧ jF 8589934592 s = Hj) ∨ ∃ (W H D K R : Int) (Ls : List Int) (St : List (List UInt8)) (ph b0 b1 b2 b3 w : Int) (sp : List (Int × Int)) (g0 g1 g2 m0 m1 m2 m3 m4 m5 m6 m7 m8 : Int) (cv : List (Int × Int)) (am : Int) (f : Bool),
  s = LJ W H D K R Ls St ph b0 b1 b2 b3 w sp g0 g1 g2 m0 m1 m2 m3 m4 m5 m6 m7 m8 cv am ∧ mJ 8589934592 cv = some f ∧ (f = true ↔ tZ cv) ∧ (zN W H D K R Ls St ph b0 b1 b2 b3 w sp g0 g1 g2 m0 m1 m2 m3 m4 m5 m6 m7 m8 am f).2.2.2 = 0 ∧
  tY 8589934592 s = some (W, H, D, K, R, Ls, St, ph, b0, b1, b2, b3, w, sp, g0, g1, g2, m0, m1, m2, m3, m4, m5, m6, m7, m8, cv, am, 0) ∧ jF 8589934592 s = some (W, H, D, K, R, Ls, St, ph, b0, b1, b2, b3, w, sp, g0, g1, g2, m0, m1, m2, m3, m4, m5, m6, m7, m8, cv, am, true) := by
 rw [Kz 8589934592 (by decide), Mo 8589934592 (by decide)]
 rcases hp : OW s with _ | ⟨⟨W, H, D, K, R, Ls, St, ph, b0, b1, b2, b3, w, sp, g0, g1, g2, m0, m1, m2, m3, m4, m5, m6, m7, m8, cv, am⟩, t⟩
 ·exact .inl ⟨rfl, rfl⟩
 unfold xF xG
 dsimp only
 by_cases ht : t = []
 rotate_left
 ·rw [cT (by rw [dF ht]; rfl), cT (by rw [dF ht]; rfl)]; exact .inl ⟨rfl, rfl⟩
 obtain ⟨aBO, hfit⟩ := Vy W H D K R Ls St ph b0 b1 b2 b3 w sp g0 g1 g2 m0 m1 m2 m3 m4 m5 m6 m7 m8 cv am hp ht;have hs : ∀ y ∈ St, y.length ≤ 9223372036854775807 := fun y hy => by have := hfit.2.2.1.2 y hy; omega
 obtain ⟨f, hb, hb', hc⟩ := Jl cv;rw [cF (by rw [dT ht]; rfl), cF (by rw [dT ht]; rfl), HY W H D K R Ls St ph b0 b1 b2 b3 w sp g0 g1 g2 m0 m1 m2 m3 m4 m5 m6 m7 m8 cv am hb hc hs, aC, Ll W H D K R Ls St ph b0 b1 b2 b3 w sp g0 g1 g2 m0 m1 m2 m3 m4 m5 m6 m7 m8 cv am hb' hs, aC]
 by_cases h0 : (zN W H D K R Ls St ph b0 b1 b2 b3 w sp g0 g1 g2 m0 m1 m2 m3 m4 m5 m6 m7 m8 am f).2.2.2 = 0
 rotate_left
 ·rw [cT (by rw [dF h0]; rfl), cT (by rw [dF h0]; rfl)]; exact .inl ⟨rfl, rfl⟩
 rw [cF (by rw [dT h0]; rfl), cF (by rw [dT h0]; rfl)];exact .inr ⟨W, H, D, K, R, Ls, St, ph, b0, b1, b2, b3, w, sp, g0, g1, g2, m0, m1, m2, m3, m4, m5, m6, m7, m8, cv, am, f, aBO, hb, hc, h0, rfl, rfl⟩
theorem JG (W H D K R : Int) (Ls : List Int) (St : List (List UInt8)) (ph b0 b1 b2 b3 w : Int) (sp : List (Int × Int)) (g0 g1 g2 m0 m1 m2 m3 m4 m5 m6 m7 m8 : Int) (cv : List (Int × Int)) (am : Int) (s : List UInt8) (hs : ∀ y ∈ St, y.length ≤ 9223372036854775807) : pJ 8589934592 W H D K R Ls St ph b0 b1 b2 b3 w sp g0 g1 g2 m0 m1 m2 m3 m4 m5 m6 m7 m8 cv am s = some true := by
 obtain ⟨f, hb, hb', hc⟩ := Jl cv;unfold pJ;rw [Pj W H D K R Ls St ph b0 b1 b2 b3 w sp g0 g1 g2 m0 m1 m2 m3 m4 m5 m6 m7 m8 cv am hb hc hs, aC, Ll W H D K R Ls St ph b0 b1 b2 b3 w sp g0 g1 g2 m0 m1 m2 m3 m4 m5 m6 m7 m8 cv am hb' hs, aC]
 have hrd : ∀ (r2 : List UInt8 × Int) (r3 : Int × Int × List Int × Int), r2.2 = r3.2.2.2 → (Option.bind (tY 8589934592 s) fun r5 => Option.bind (jF 8589934592 s) fun r6 => lT 8589934592 r6 (fun v2 => lS 8589934592 r2 r3 r2.1 r5 r6 v2 (fun i2 => some i2))) = some true := by
  intro r2 r3 hr
  rcases Pk s with ⟨e1, e2⟩ | ⟨W, H, D, K, R, Ls, St, ph, b0, b1, b2, b3, w, sp, g0, g1, g2, m0, m1, m2, m3, m4, m5, m6, m7, m8, cv, am, f, aBO, hb, hc, h0, e1, e2⟩
  ·rw [e1, e2];unfold AC Hj;rw [aC, aC];unfold lT;rw [cT (by rfl)];unfold lS
   dsimp only
   rw [HW, aC, cT rfl, cT (dT rfl), cT (dT hr), cT (by rfl), HU 0 0 0 0 0 [] [] 0 0 0 0 0 0 [] 0 0 0 0 0 0 0 0 0 0 0 0 [] 0 8589934592 (by decide) (by decide) (by decide) (by decide) (by decide)]; rfl
  ·obtain ⟨_, l1, l2, l3, l4, l5⟩ := JF W H D K R Ls St ph b0 b1 b2 b3 w sp g0 g1 g2 m0 m1 m2 m3 m4 m5 m6 m7 m8 cv am hc h0;rw [e1, e2, aC, aC];unfold lT
   dsimp only
   rw [cF (by rfl)];unfold lS
   dsimp only
   rw [HW, aC, cT rfl, cT (dT rfl), cT (dT hr), cT (by rfl), HU W H D K R Ls St ph b0 b1 b2 b3 w sp g0 g1 g2 m0 m1 m2 m3 m4 m5 m6 m7 m8 cv am 8589934592 (by decide) (by omega) (by omega) (by omega) (by omega)]; rfl
 unfold qU
 by_cases h0 : (zN W H D K R Ls St ph b0 b1 b2 b3 w sp g0 g1 g2 m0 m1 m2 m3 m4 m5 m6 m7 m8 am f).2.2.2 = 0
 ·obtain ⟨_, l1, l2, l3, l4, l5⟩ := JF W H D K R Ls St ph b0 b1 b2 b3 w sp g0 g1 g2 m0 m1 m2 m3 m4 m5 m6 m7 m8 cv am hc h0;rw [cT (dT h0), RN W H D K R Ls St ph b0 b1 b2 b3 w sp g0 g1 g2 m0 m1 m2 m3 m4 m5 m6 m7 m8 cv am 8589934592 (by decide) (by omega) (by omega) (fun s q => by have := l3 s q; omega) (by omega) (by omega), aC, if_pos h0];exact hrd (LJ W H D K R Ls St ph b0 b1 b2 b3 w sp g0 g1 g2 m0 m1 m2 m3 m4 m5 m6 m7 m8 cv am, 0) _ h0.symm
 ·rw [cF (dF h0), if_neg h0];exact hrd ([], (zN W H D K R Ls St ph b0 b1 b2 b3 w sp g0 g1 g2 m0 m1 m2 m3 m4 m5 m6 m7 m8 am f).2.2.2) _ rfl
end
section
open Go.RowKit
section
variable {P : Program} {ops : Array Oper} {Q O : Exit → Act → World → Prop} {S : World → Prop} {qX need : Nat → Bool} {R : Act → World → Prop}
def Ln (ops : Array Oper) (rem : List Nat) (i : Nat) : Bool := rem.all fun j => !waits ops i j
def xH (P : Program) (O : Exit → Act → World → Prop) (ops : Array Oper) (S : World → Prop) (qX need : Nat → Bool) (R : Act → World → Prop) : Nat → List Nat → Act → World → Prop
 | 0, rem, a, w => rem = [] ∧ R a w
 | n + 1, rem, a, w =>
  (∃ i ∈ rem, qX i = true ∧ Ln ops rem i = true ∧ ∃ o, ops[i]? = some o ∧ ∃ v, u4 P ops S o v a ∧ xH P O ops S qX need R n (rem.erase i) (a.put o.dst v) w) ∨
  ((∀ i ∈ rem, qX i = true → Ln ops rem i = false) ∧ ∀ c ∈ rem, qX c = false → Ln ops rem c = true → wpOp P ops O c (fun a' w' => (need c = true → S w') ∧ xH P O ops S qX need R n (rem.erase c) a' w') a w)
def FO (ops : Array Oper) (qX : Nat → Bool) (i j : Nat) : Bool :=
 match ops[i]?, ops[j]? with
 | some oi, some oj => waits ops i j || ((!qX i || oi.apart ops oj) && (!qX j || oj.apart ops oi))
 | _, _ => false
def NN (ops : Array Oper) (qX need : Nat → Bool) : Bool :=
 Region.noSelect ops && PM ops && ((List.range ops.size).all fun i => (List.range i).all fun j => FO ops qX i j) &&
 (List.range ops.size).all fun i => qX i || need i || !I0 ops qX i
def RO (O : Exit → Act → World → Prop) : Prop := (∀ e a d v w, O e (a.put d v) w → O e a w) ∧ ¬ LetsOut O
theorem Wn : RO CB := ⟨fun _ _ _ _ _ h => h.elim, fun ⟨_, _, h⟩ => h.elim⟩
theorem NO (hO : RO O) {j : Nat} {oi oj : Oper} {v : Value} (hj : ops[j]? = some oj) (hap : oi.apart ops oj = true)
  (hsi : ∀ cs b, oi.op ≠ .select cs b) (hsj : ∀ cs b, oj.op ≠ .select cs b) {K : Act → World → Prop} {a : Act} {w : World}
  (hy : u4 P ops S oi v a) (h : wpOp P ops O j K (a.put oi.dst v) w) :
  wpOp P ops O j (fun a' w' => u4 P ops S oi v a' ∧ K (a'.put oi.dst v) w') a w := by
 obtain ⟨h1, h2, h3⟩ := Oper.apart_spec hap
 have keep : ∀ (a : Act), u4 P ops S oi v a → ∀ u, u4 P ops S oi v (a.put oj.dst u) := fun a hy u =>
  hy.same (execOp_put oi hsi a oj.dst u h3) (wanted_put oi a oj.dst u h3)
 have keepD : ∀ d, u4 P ops S oi v { a with defers := d :: a.defers } := fun d => hy.same rfl rfl
 unfold wpOp at *;simp only [hj] at *;rw [wanted_put oj a oi.dst v h1] at h
 split
 ·rename_i hw
  simp only [hw, if_true] at h
  rcases h with h | ⟨_, hl⟩
  case inr => exact absurd hl hO.2
  refine .inl ?_;unfold Oper.wp at *;rw [execOp_put oj hsj a oi.dst v h1] at h
  generalize (execOp a.eval oj).run P w = r at *
  cases r with
  | ok n w' =>
   cases n <;> simp only [Oper.upon] at h ⊢
   case value u => exact ⟨keep a hy u, by rw [← Act.put_comm a v u h2]; exact h⟩
   case skip => exact ⟨keep a hy _, by rw [← Act.put_comm a v undef h2]; exact h⟩
   case defer d =>
    refine ⟨keep _ (keepD d) _, ?_⟩;rw [← Act.put_comm _ v undef h2, ← Act.put_defers];exact h
   case enter f args =>
    refine Calls.mono h fun e w'' he => ?_
    cases e with
    | returned u => exact ⟨keep a hy u, by rw [← Act.put_comm a v u h2]; exact he⟩
    | panicked c => exact hO.1 _ _ _ _ _ he
    | outgrown => exact absurd he hO.2
   case row row args => exact Rows.mono h fun u w'' he => ⟨keep a hy u, by rw [← Act.put_comm a v u h2]; exact he⟩
  | halt x w' => cases x <;> simp only [Oper.upon] at h ⊢; exact hO.1 _ _ _ _ _ h
 ·rename_i hw
  simp only [hw] at h;exact ⟨keep a hy _, by rw [← Act.put_comm a v undef h2]; exact h⟩
theorem RP (hO : RO O) (hQ : ∀ e a w, O e a w → Q e a w) {i : Nat} {K : Act → World → Prop} {a : Act} {w : World} (h : wpOp P ops O i K a w) : wpOp P ops Q i K a w := by
  unfold wpOp at *
  split
  · rename_i h0
    simp only [h0] at h
    exact h
  · rename_i o ho
    simp only [ho] at h
    split
    · rename_i hw
      rw [if_pos hw] at h
      rcases h with h | ⟨_, hl⟩
      case inr => exact absurd hl hO.2
      refine .inl ?_
      unfold Oper.wp at *
      generalize (execOp a.eval o).run P w = r at *
      cases r with
      | ok n w' =>
        cases n <;> simp only [Oper.upon] at h ⊢ <;> first
          | exact h
          | (refine Calls.mono h fun e w'' he => ?_
             cases e with
             | returned u => exact he
             | panicked c => exact hQ _ _ _ he
             | outgrown => exact absurd he hO.2)
      | halt x w' => cases x <;> simp only [Oper.upon] at h ⊢; exact hQ _ _ _ h
    · rename_i hw
      rw [if_neg hw] at h
      exact h
theorem BN {rem : List Nat} {i k : Nat} (h : Ln ops rem i = true) : Ln ops (rem.erase k) i = true := by
 unfold Ln at *;rw [List.all_eq_true] at *;exact fun j hj => h j (List.mem_of_mem_erase hj)
theorem yH {rem : List Nat} {i j : Nat} (h : Ln ops rem i = true) (hj : j ∈ rem) : waits ops i j = false := by
 unfold Ln at h;rw [List.all_eq_true] at h
 simpa using h j hj
theorem Qu {i : Nat} {oi : Oper} (hi : ops[i]? = some oi) (hr : qX i = true) (hsel : ∀ (j : Nat) (o : Oper) cs b, ops[j]? = some o → o.op ≠ .select cs b)
  (yC : ∀ j k oj ok, j ≠ k → ops[j]? = some oj → ops[k]? = some ok → waits ops j k = false → waits ops k j = false → (qX j = true → oj.apart ops ok = true)) :
  ∀ (n : Nat) (rem : List Nat) (a : Act) (w : World), i ∈ rem → Ln ops rem i = true → xH P O ops S qX need R (n + 1) rem a w → ∃ v, u4 P ops S oi v a ∧ xH P O ops S qX need R n (rem.erase i) (a.put oi.dst v) w := by
 intro n
 induction n with
 | zero =>
  intro rem a w him hrd h
  rcases h with ⟨i0, hi0, hr0, hd0, o0, ho0, u, hu, h⟩ | ⟨hno, _⟩
  ·obtain ⟨hnil, hR⟩ := h
   have : i0 = i := by
    by_cases e : i0 = i
    ·exact e
    ·have : i ∈ rem.erase i0 := (List.mem_erase_of_ne (fun h => e h.symm)).2 him;rw [hnil] at this; cases this
   subst this;obtain rfl : o0 = oi := Option.some.inj (ho0.symm.trans hi);exact ⟨u, hu, hnil, hR⟩
  ·rw [hno i him hr] at hrd; cases hrd
 | succ n ih =>
  intro rem a w him hrd h
  rcases h with ⟨i0, hi0, hr0, hd0, o0, ho0, u, hu, h⟩ | ⟨hno, _⟩
  ·by_cases e : i0 = i
   ·subst e;obtain rfl : o0 = oi := Option.some.inj (ho0.symm.trans hi);exact ⟨u, hu, h⟩
   ·have aEo : i ∈ rem.erase i0 := (List.mem_erase_of_ne (fun h => e h.symm)).2 him;obtain ⟨v, hv, h⟩ := ih _ _ _ aEo (BN hrd) h;have w1 := yH hrd hi0;have w2 := yH hd0 him;have ap1 := yC i i0 oi o0 (fun h => e h.symm) hi ho0 w1 w2 hr;have ap2 := yC i0 i o0 oi e ho0 hi w2 w1 hr0;obtain ⟨p1, p2, p3⟩ := Oper.apart_spec ap1;obtain ⟨q1, q2, q3⟩ := Oper.apart_spec ap2;have hv' : u4 P ops S oi v a := hv.same (execOp_put oi (fun cs b => hsel i oi cs b hi) a o0.dst u p3).symm (wanted_put oi a o0.dst u p3).symm;refine ⟨v, hv', .inl ⟨i0, (List.mem_erase_of_ne e).2 hi0, hr0, BN hd0, o0, ho0, u, ?_, ?_⟩⟩
    ·exact hu.same (execOp_put o0 (fun cs b => hsel i0 o0 cs b ho0) a oi.dst v q3) (wanted_put o0 a oi.dst v q3)
    ·rw [List.erase_comm, Act.put_comm a v u p2]; exact h
  ·rw [hno i him hr] at hrd; cases hrd
theorem Wo (hO : RO O) {c : Nat} {oc : Oper} (hc : ops[c]? = some oc) (hrc : qX c = false) (hsel : ∀ (j : Nat) (o : Oper) cs b, ops[j]? = some o → o.op ≠ .select cs b)
  (yC : ∀ j k oj ok, j ≠ k → ops[j]? = some oj → ops[k]? = some ok → waits ops j k = false → waits ops k j = false → (qX j = true → oj.apart ops ok = true)) :
  ∀ (n : Nat) (rem : List Nat) (a : Act) (w : World), c ∈ rem → Ln ops rem c = true → xH P O ops S qX need R (n + 1) rem a w → wpOp P ops O c (fun a' w' => (need c = true → S w') ∧ xH P O ops S qX need R n (rem.erase c) a' w') a w := by
 intro n
 induction n with
 | zero =>
  intro rem a w hcm hrd h
  rcases h with ⟨i0, hi0, hr0, hd0, o0, ho0, u, hu, h⟩ | ⟨_, h⟩
  ·obtain ⟨hnil, hR⟩ := h;have e : i0 ≠ c := fun e => by subst e; rw [hrc] at hr0; cases hr0
   have : c ∈ rem.erase i0 := (List.mem_erase_of_ne (fun h => e h.symm)).2 hcm;rw [hnil] at this; cases this
  ·exact h c hcm hrc hrd
 | succ n ih =>
  intro rem a w hcm hrd h
  rcases h with ⟨i0, hi0, hr0, hd0, o0, ho0, u, hu, h⟩ | ⟨_, h⟩
  ·have e : i0 ≠ c := fun e => by subst e; rw [hrc] at hr0; cases hr0
   have hcm' : c ∈ rem.erase i0 := (List.mem_erase_of_ne (fun h => e h.symm)).2 hcm;have h2 := ih _ _ _ hcm' (BN hrd) h;have w1 := yH hrd hi0;have w2 := yH hd0 hcm;have ap := yC i0 c o0 oc e ho0 hc w2 w1 hr0;have h3 := NO hO hc ap (fun cs b => hsel i0 o0 cs b ho0) (fun cs b => hsel c oc cs b hc) hu h2;refine wpOp_mono ?_ h3;rintro a' w' ⟨hy, hn, hk⟩;refine ⟨hn, .inl ⟨i0, (List.mem_erase_of_ne e).2 hi0, hr0, BN hd0, o0, ho0, u, hy, ?_⟩⟩;rw [List.erase_comm]; exact hk
  ·exact h c hcm hrc hrd
theorem D2 {l : List Nat} (hl : l.Nodup) (i : Nat) : l.filter (· != i) = l.erase i := by
 rw [List.Nodup.erase_eq_filter hl]
theorem NP (hO : RO O) (hQ : ∀ e a w, O e a w → Q e a w) (hok : NN ops qX need = true) : ∀ (fuel : Nat) (listed : Array Bool) (a : Act) (w : World), listed.size = ops.size → Closed ops listed → (k8 ops listed).length = fuel →
  (∀ r ∈ k8 ops listed, qX r = true → S w) → xH P O ops S qX need (Q .normal) fuel (k8 ops listed) a w → wpAny P .any ops Q fuel listed a w := by
 simp only [NN, Bool.and_eq_true] at hok;obtain ⟨⟨⟨MU, hback⟩, Pm⟩, MV⟩ := hok;have hsel := Region.noSelect_spec MU;have hp : ∀ i < ops.size, ∀ j < i, FO ops qX i j = true := fun i hi j hj => List.all_eq_true.1 (List.all_eq_true.1 Pm i (List.mem_range.2 hi)) j (List.mem_range.2 hj)
 have yC : ∀ j k oj ok, j ≠ k → ops[j]? = some oj → ops[k]? = some ok → waits ops j k = false → waits ops k j = false → (qX j = true → oj.apart ops ok = true) := by
  intro j k oj ok hjk hj hk w1 w2 hr;have hjl := (Array.getElem?_eq_some_iff.1 hj).1;have hkl := (Array.getElem?_eq_some_iff.1 hk).1
  rcases Nat.lt_or_gt_of_ne hjk with hlt | hlt
  ·have h := hp k hkl j hlt;unfold FO at h;simp only [hj, hk, w2, Bool.false_or, Bool.and_eq_true, Bool.or_eq_true, Bool.not_eq_true'] at h
   rcases h.2 with h0 | h0
   ·rw [hr] at h0; cases h0
   ·exact h0
  ·have h := hp j hjl k hlt;unfold FO at h;simp only [hj, hk, w1, Bool.false_or, Bool.and_eq_true, Bool.or_eq_true, Bool.not_eq_true'] at h
   rcases h.1 with h0 | h0
   ·rw [hr] at h0; cases h0
   ·exact h0
 have hbk : ∀ i o, ops[i]? = some o → ∀ e ∈ o.after, Region.binds .any e = true → e.on < i := fun i o ho e he hb => by
  have hi : i < ops.size := (Array.getElem?_eq_some_iff.1 ho).1;have h := List.all_eq_true.1 hback i (List.mem_range.2 hi);simp only [ho] at h;have h2 := Array.all_eq_true_iff_forall_mem.1 h e he
  simpa [hb] using h2
 have hnd : ∀ i < ops.size, qX i = false → ∀ r < ops.size, qX r = true → waits ops i r = false → need i = true := fun i hi DY r hr hrr hw => by
  have h := List.all_eq_true.1 MV i (List.mem_range.2 hi);simp only [DY, Bool.false_or, Bool.or_eq_true, Bool.not_eq_true'] at h;refine h.resolve_right fun h0 => ?_
  have : I0 ops qX i = true := by
   refine List.any_eq_true.2 ⟨r, List.mem_range.2 hr, ?_⟩;have : r ≠ i := fun e => by subst e; rw [DY] at hrr; cases hrr
   simp [hrr, hw, this]
  rw [this] at h0;cases h0
 intro fuel
 induction fuel with
 | zero =>
  intro listed a w hs hc hlen _ h;have hnil : k8 ops listed = [] := List.eq_nil_of_length_eq_zero hlen;obtain ⟨_, h⟩ := h;refine ⟨?_, h⟩;refine List.eq_nil_iff_forall_not_mem.2 fun i hi => ?_
  obtain ⟨h0, o, ho, _⟩ := mem_ready.1 hi;have : i ∈ k8 ops listed := nP.2 ⟨(Array.getElem?_eq_some_iff.1 ho).1, h0⟩;rw [hnil] at this;cases this
 | succ fuel ih =>
  intro listed a w hs hc hlen hS h;refine ⟨fun h0 => ?_, fun i hi => ?_⟩
  ·exfalso
   match hr : k8 ops listed, hlen with
   | i0 :: rest, _ =>
    have hm0 : i0 ∈ k8 ops listed := by rw [hr]; exact List.mem_cons_self ..
    obtain ⟨hlt, hun⟩ := nP.1 hm0;have CC := wC (ops := ops) listed;rw [hr, List.pairwise_cons] at CC
    have : i0 ∈ Region.ready .any ops listed := by
     refine mem_ready.2 ⟨hun, ops[i0], Array.getElem?_eq_getElem hlt, fun e he hb => ?_⟩;have hlt2 := hbk i0 _ (Array.getElem?_eq_getElem hlt) e he hb;cases hl : listed.getD e.on false with
     | true => rfl
     | false =>
      have hm : e.on ∈ k8 ops listed := nP.2 ⟨by omega, by rw [BJ (by omega)]; exact hl⟩;rw [hr] at hm
      rcases List.mem_cons.1 hm with hm | hm
      ·omega
      ·have := CC.1 _ hm; omega
    rw [h0] at this;cases this
  ·obtain ⟨hun, oi, hoi, hall⟩ := mem_ready.1 hi;have hilt : i < ops.size := (Array.getElem?_eq_some_iff.1 hoi).1;have him : i ∈ k8 ops listed := nP.2 ⟨hilt, hun⟩;have Po : (k8 ops listed).Nodup := (wC (ops := ops) listed).imp fun h => Nat.ne_of_lt h
   have CD : k8 ops (listed.setIfInBounds i true) = (k8 ops listed).erase i := by rw [GS hs hilt, D2 Po]
   have hlen' : (k8 ops (listed.setIfInBounds i true)).length = fuel := by
    rw [CD, List.length_erase_of_mem him]; omega
   have hs' : (listed.setIfInBounds i true).size = ops.size := by simpa using hs
   have hc' : Closed ops (listed.setIfInBounds i true) := by
    intro k hk j hj
    by_cases hik : i = k
    ·subst hik; exact getD_set_true (u9 hi hj)
    ·rw [getD_set_ne false hik] at hk; exact getD_set_true (hc k hk j hj)
   have hrd : Ln ops (k8 ops listed) i = true := by
    unfold Ln;rw [List.all_eq_true];intro j hj;obtain ⟨h1, h2⟩ := nP.1 hj;cases hw : waits ops i j with
    | false => rfl
    | true =>
     have := u9 hi hw;rw [← BJ (by omega), h2] at this; cases this
   cases DY : qX i with
   | true =>
    have hSw : S w := hS i him DY;obtain ⟨v, hv, hrest⟩ := Qu hoi DY hsel yC fuel _ a w him hrd h;refine hv.run hoi hSw (ih _ _ _ hs' hc' hlen' (fun _ _ _ => hSw) (by rw [CD]; exact hrest))
   | false =>
    have h2 := Wo hO hoi DY hsel yC fuel _ a w him hrd h;refine RP hO hQ (wpOp_mono ?_ h2);rintro a' w' ⟨hn, hk⟩;refine ih _ _ _ hs' hc' hlen' ?_ (by rw [CD]; exact hk);intro r hr hrr;rw [CD] at hr;have hrm := List.mem_of_mem_erase hr;exact hn (hnd i hilt DY r (nP.1 hrm).1 hrr (yH hrd hrm))
theorem Mp (hO : RO O) (hQ : ∀ e a w, O e a w → Q e a w) {id : Nat} {a : Act} {w : World} {l : List Oper} (S : World → Prop) (f : List Nat) (n : Nat) (rem : List Nat) (hm : P.follows .mixedOrders = true) (hok : NN l.toArray (o9 f) (kL f) = true)
  (hl : List.range l.toArray.size = rem) (hn : rem.length = n) (hS : S w.drew) (h : xH P O l.toArray S (o9 f) (kL f) (Q .normal) n rem a w.drew) : (Code.region id l.toArray true).wp P Q a w := by
 refine wp_region_any hm ?_
 have Ie : k8 l.toArray (Array.replicate l.toArray.size false) = List.range l.toArray.size := by
  unfold k8;refine List.filter_eq_self.2 fun i hi => ?_
  have := List.mem_range.1 hi
  simp at this
  simp [this]
 refine NP hO hQ hok l.toArray.size (Array.replicate l.toArray.size false) a _ (by simp) ?_ (by rw [Ie]; simp) (fun _ _ _ => hS) ?_
 ·intro i hi;rw [Ae] at hi;cases hi
 ·rw [Ie, hl];have : l.toArray.size = n := by rw [← hn, ← hl]; simp
  rw [this]; exact h
theorem sH {id : Nat} {a : Act} {w : World} {l : List Oper} (S : World → Prop) (f : List Nat) (n : Nat) (rem : List Nat) (hm : P.follows .mixedOrders = true) (hok : NN l.toArray (o9 f) (kL f) = true)
  (hl : List.range l.toArray.size = rem) (hn : rem.length = n) (hS : S w.drew) (h : xH P CB l.toArray S (o9 f) (kL f) (Q .normal) n rem a w.drew) : (Code.region id l.toArray true).wp P Q a w :=
 Mp Wn (fun _ _ _ h => h.elim) S f n rem hm hok hl hn hS h
theorem put_defers (a : Act) (d : Option Nat) (v : Value) : (a.put d v).defers = a.defers := by cases d <;> rfl
variable {D : List Deferred} {a : Act} {w : World} {N : Nat} {l : List (Nat × Value)} {o : Oper} {v : Value} {post : Value → World → Prop} {d i c n : Nat} {rem Cy : List Nat} {f : List Nat}
theorem dU (i : Nat) (Cy : List Nat) (hc : (rem.elem i && o9 f i && Ln ops rem i && rem.erase i == Cy) = true) (ho : ops[i]? = some o) (K : Kd D a N l) (hw : Region.wanted o (yielded ops a.tmps) = true) (hd : o.dst = some d) (hN : Nat.blt d N = true) (hr : Rd P S a o v)
  (k : ∀ a', Kd D a' N ((d, v) :: l) → xH P O ops S (o9 f) (kL f) R n Cy a' w) : xH P O ops S (o9 f) (kL f) R (n + 1) rem a w := by
 simp only [Bool.and_eq_true, beq_iff_eq, List.elem_iff] at hc;obtain ⟨⟨⟨h1, h2⟩, h3⟩, rfl⟩ := hc;refine .inl ⟨i, h1, h2, h3, o, ho, v, .inl ⟨hw, hr⟩, ?_⟩;have := K.put (d := o.dst) (by rw [hd]; exact hN) v;rw [hd] at this ⊢;exact k _ this
theorem aEp (i : Nat) (Cy : List Nat) (hc : (rem.elem i && o9 f i && Ln ops rem i && rem.erase i == Cy) = true) (ho : ops[i]? = some o) (K : Kd D a N l) (hw : Region.wanted o (yielded ops a.tmps) = false) (hd : o.dst = some d) (hN : Nat.blt d N = true)
  (k : ∀ a', Kd D a' N ((d, undef) :: l) → xH P O ops S (o9 f) (kL f) R n Cy a' w) : xH P O ops S (o9 f) (kL f) R (n + 1) rem a w := by
 simp only [Bool.and_eq_true, beq_iff_eq, List.elem_iff] at hc;obtain ⟨⟨⟨h1, h2⟩, h3⟩, rfl⟩ := hc;refine .inl ⟨i, h1, h2, h3, o, ho, undef, .inr ⟨hw, rfl⟩, ?_⟩;have := K.put (d := o.dst) (by rw [hd]; exact hN) undef;rw [hd] at this ⊢;exact k _ this
def Y0 (p : Nat → Prop) : List Nat → Prop
 | [] => True
 | c :: cs => p c ∧ Y0 p cs
theorem NQ {p : Nat → Prop} : ∀ {cs : List Nat}, Y0 p cs → ∀ c ∈ cs, p c
 | [], _, c, h => by cases h
 | d :: cs, h, c, hc => by
  rcases List.mem_cons.1 hc with rfl | hc
  ·exact h.1
  ·exact NQ h.2 c hc
theorem gD (cs : List Nat) (hc : ((rem.all fun i => !o9 f i || !Ln ops rem i) && (rem.filter fun c => !o9 f c && Ln ops rem c) == cs) = true)
  (h : Y0 (fun c => wpOp P ops O c (fun a' w' => (kL f c = true → S w') ∧ xH P O ops S (o9 f) (kL f) R n (rem.erase c) a' w') a w) cs) : xH P O ops S (o9 f) (kL f) R (n + 1) rem a w := by
 simp only [Bool.and_eq_true, beq_iff_eq] at hc;obtain ⟨h1, rfl⟩ := hc;refine .inr ⟨fun i hi hr => ?_, fun c hcm hr hrd => NQ h c (List.mem_filter.2 ⟨hcm, by simp [hr, hrd]⟩)⟩;have := List.all_eq_true.1 h1 i hi
 simpa [hr] using this
theorem k7 (Cy : List Nat) (hc : (rem.erase c == Cy) = true) (ho : ops[c]? = some o) (K : Kd D a N l) (hw : Region.wanted o (yielded ops a.tmps) = true) (hd : o.dst = some d) (hN : Nat.blt d N = true) (h : Ac P o a w post)
  (k : ∀ v a' w', post v w' → Kd D a' N ((d, v) :: l) → (kL f c = true → S w') ∧ xH P O ops S (o9 f) (kL f) R n Cy a' w') : wpOp P ops O c (fun a' w' => (kL f c = true → S w') ∧ xH P O ops S (o9 f) (kL f) R n (rem.erase c) a' w') a w := by
 obtain rfl : rem.erase c = Cy := by simpa using hc
 unfold wpOp;simp only [ho, hw, if_true];refine .inl (h _ _ fun v w' hp => ?_);have := K.put (d := o.dst) (by rw [hd]; exact hN) v;rw [hd] at this ⊢;exact k v _ w' hp this
theorem wL (Cy : List Nat) (hc : (rem.erase c == Cy) = true) (ho : ops[c]? = some o) (K : Kd D a N l) (hw : Region.wanted o (yielded ops a.tmps) = true) (hd : o.dst = none) (h : Ac P o a w post)
  (k : ∀ v a' w', post v w' → Kd D a' N l → (kL f c = true → S w') ∧ xH P O ops S (o9 f) (kL f) R n Cy a' w') : wpOp P ops O c (fun a' w' => (kL f c = true → S w') ∧ xH P O ops S (o9 f) (kL f) R n (rem.erase c) a' w') a w := by
 obtain rfl : rem.erase c = Cy := by simpa using hc
 unfold wpOp;simp only [ho, hw, if_true];refine .inl (h _ _ fun v w' hp => ?_);rw [hd];exact k v _ w' hp K
theorem Cj {St Rt : Type} {Rel : St → Act → World → Prop} {kk : St → Option Rt} {jf : (St → Option Rt) → Option Rt} {r : Rt} {p : Code} (h : jf kk = some r) (hk : ∀ st a w, Rel st a w → kk st = some r → Q .normal a w)
  (hc : ∀ kk : St → Option Rt, (∀ st a w, Rel st a w → kk st = some r → Q .normal a w) → jf kk = some r → p.wp P Q a w) : p.wp P Q a w := hc kk hk h
def Bo (P : Program) (o : Oper) (a : Act) (w : World) (Pn : List PanicEntry → World → Prop) : Prop :=
 ∀ (K : Act → World → Prop) (Q : Exit → Act → World → Prop), (∀ ch w', Pn ch w' → Q (.panic ch) a w') → o.wp P a w K Q
theorem Wp {Pn : List PanicEntry → World → Prop} {fi : FuncId} {x : Operand} {cap vs : List Value} {args : Array Operand} {ts : Array TypeId} (ho : o.op = .call { callee := .value x, args := args, argTypes := ts }) (hf : lZ P fi = true) (K : Kd D a N l) (hx : kQ l x = some (.func (.func fi) #[] cap.toArray)) (hargs : args.toList.map (kQ l) = vs.map some)
  (h : Calls P fi (vs ++ cap).toArray w fun e w' => ∃ ch, e = .panicked ch ∧ Pn ch w') : Bo P o a w Pn := by
 have hE : args.map a.eval = vs.toArray := by
  apply Array.ext'
  simp only [Array.toList_map]
  have : ∀ (xs : List Operand) (vs : List Value), xs.map (kQ l) = vs.map some → xs.map a.eval = vs := by
   intro xs
   induction xs with
   | nil => intro vs h; cases vs <;> simp_all
   | cons x xs ih =>
    intro vs h;cases vs with
    | nil => simp at h
    | cons v vs => simp only [List.map_cons, List.cons.injEq] at h ⊢; exact ⟨K.ev h.1, ih vs h.2⟩
  exact this _ _ hargs
 have hrun : (execOp a.eval o).run P w = .ok (.enter fi (vs ++ cap).toArray) w := by
  unfold lZ at hf
  split at hf
  ·rename_i fn hfn
   simp only [Bool.and_eq_true, bne_iff_ne, ne_eq] at hf;obtain ⟨b, hb⟩ := Option.isSome_iff_exists.1 hf.1;unfold execOp
   simp [ho, resolve, K.ev hx, hE, Deferred.ofValue, invoke, callFunc, hfn, hb, hf.2]
  ·cases hf
 intro K' Q hK;unfold Oper.wp;rw [hrun, Oper.upon_enter];refine h.mono ?_;rintro e w' ⟨ch, rfl, hp⟩;exact hK ch w' hp
theorem tO {Pn : List PanicEntry → World → Prop} {x : Operand} {T : TypeId} {u : Value} (ho : o.op = .panic x) (K : Kd D a N l) (hx : kQ l x = some (.iface T u)) (h : Pn [{ v := .iface T u, recovered := false }] w) : Bo P o a w Pn := by
 intro K2 Q2 hQ;unfold Oper.wp
 have : (execOp a.eval o).run P w = .halt (.panic (.iface T u)) w := by
  unfold execOp
  simp [ho, K.ev hx, run_panic_iface, Result.andThen]
 rw [this];exact hQ _ _ h
theorem tP {rest : List Oper} {Pn : List PanicEntry → World → Prop} (K : Kd D a N l) (hw : Region.wanted o (yielded ops a.tmps) = true) (h : Bo P o a w Pn) (k : ∀ ch w', Pn ch w' → Q (.panic ch) a w') : wpList P ops Q (o :: rest) a w := by
 refine wpList_step fun Kc hK => ?_
 rw [if_pos hw];exact h _ _ k
theorem eH {K : Act → World → Prop} {ch : List PanicEntry} (h : Q (.panic ch) a w) : Exit.then K Q (.panic ch) a w := h
theorem kK {id : Nat} {ch : List PanicEntry} (h : Q (.panic ch) a w) : Exit.inBlock id Q (.panic ch) a w := h
theorem lY {fn : Func} {Rp : Ending → World → Prop} {ch : List PanicEntry} (hd : a.defers = []) (h : Rp (.panicked ch) w) : bodyPost P fn Rp (.panic ch) a w := ⟨hd, h⟩
theorem sW (h : R a w) : xH P O ops S (o9 f) (kL f) R 0 [] a w := ⟨rfl, h⟩
end
section
variable {P : Program} {S : World → Prop} {base : Nat} {W w : World} {L : List mT} {D : List Deferred} {a : Act} {N : Nat} {l : List (Nat × Value)} {o : Oper} {v v' : Value} {x y ix : Operand} {k : IntKind} {m n : Int} {t e t' : TypeId} {g off : Nat} {cs : List Value} {α : Type} {C : vB α} {xs ys zs : List α} {A B : Option Addr} {c c' : Nat}
theorem aBP : (⟨g, off, none⟩ : Addr).add 0 = ⟨g, off, none⟩ := by unfold Addr.add; split <;> simp_all
theorem qY {len s : Nat} (ho : o.op = .slice t x none none none) (ht : P.underlying t = some (.array len e)) (hsz : (P.info? e).map (·.size) = some s) (K : Kd D a N l) (hx : kQ l x = some (.pointer (some ⟨g, off, none⟩))) :
  Rd P S a o (.slice (some ⟨g, off, none⟩) len len) := fun w _ => by
 simp only [Option.map_eq_some_iff] at hsz;obtain ⟨i, t8, hs⟩ := hsz;unfold execOp
 simp [ho, K.ev hx, Instr.sliceAt, Instr.sliceBounds, Instr.sureAddr, run_underlying ht, sizeOf, typeInfo, t8, hs, aBP]
theorem Hk (hx : (cs.drop off).take (C.all xs).length = C.all xs) (h : mM w g t cs.toArray) : SL w C (some ⟨g, off, none⟩) xs := fun _ => ⟨g, off, rfl, fun j u hu => by
 rw [h.cell];have hj : j < (C.all xs).length := (List.getElem?_eq_some_iff.1 hu).1;rw [← hx, List.getElem?_take, if_pos hj, List.getElem?_drop] at hu
 simpa using hu⟩
theorem qO (ho : o.op = .makeInterface t x) (ht : P.concrete t = true) (K : Kd D a N l) (hx : kQ l x = some v) : Rd P S a o (.iface t v) := fun w _ => by
 unfold execOp
 simp [ho, K.ev hx, run_makeInterface w t v ht]
def fdT (P : Program) (t : TypeId) (f : Nat) : Option (TypeId × Nat) := match P.underlying t with
 | some (.struct fs) => (fs[f]?).map fun fl => (fl.type, fl.offset)
 | _ => none
theorem RQ {f : Nat} (ho : o.op = .field t x f) (hf : fdT P t f = some (e, off)) (ht : Hw P e = true) (K : Kd D a N l) (hx : kQ l x = some (.agg cs.toArray)) (hv : cs[off]? = some v) : Rd P S a o v := fun w _ => by
 unfold fdT at hf
 split at hf
 ·rename_i fs hu
  obtain ⟨fl, hfl, he⟩ := Option.map_eq_some_iff.1 hf;cases he;unfold execOp
  simp [ho, K.ev hx, Instr.field, run_underlying hu, hfl, part, asAgg, (yZ ht w).1, hv]
 ·cases hf
theorem SL.JH {C : vB α} {A : Option Addr} {xs : List α} (h : SL w C A xs) (hA : A.isNone = true) : xs = [] := by
 rcases Nat.eq_zero_or_pos xs.length with h0 | h0
 ·exact List.length_eq_zero_iff.1 h0
 ·obtain ⟨b, o', rfl, _⟩ := h h0;cases hA
theorem BO {n : Nat} (ho : o.op = .binOp .eql t x y t') (ht : ∃ e, P.underlying t = some (.slice e)) (K : Kd D a N l) (hx : kQ l x = some (.slice A n c)) (hy : kQ l y = some (.slice none 0 0)) : Rd P S a o (.bool A.isNone) := fun w hS => by
 obtain ⟨e, ht⟩ := ht;unfold execOp;simp only [ho, K.ev hx, K.ev hy, Sem.run_bind];have h1 := Lib.run_eql_slice_nil (P := P) w t e A n c 0 0 ht
 cases A <;> simp [eqGuard, h1]
theorem FP {b s : Nat} (ho : o.op = .buildSlice t 0 #[]) (ht : Kg P t e s b = true) (hs : s = C.size) (K : Kd D a N l) (M : Mem base W w L) :
  Ac P o a w fun v w' => ∃ g, v = .slice (some ⟨g, 0, none⟩) ([] : List α).length 0 ∧ Mem base W w' (.row e s (some ⟨g, 0, none⟩) ([] : List α).length 0 (C.all ([] : List α)) :: L) := by
 refine y9 (v := .slice (some ⟨w.heap.size, 0, none⟩) 0 0) (w' := w.alloc (.cells #[] e)) ?_ ⟨_, rfl, ?_⟩
 ·obtain ⟨hu, i, t8, hsz, _⟩ := oS ht;unfold execOp
  simp [ho, Instr.buildSlice, Sem.run_bind, run_underlying hu, Result.andThen_ok, sizeOf, typeInfo, run_program, t8, hsz, Instr.fill, newRow, run_newObj_alloc]
  congr 2
  exact Array.eq_empty_of_size_eq_zero (by simp)
 ·exact (M.new e []).iF 0 rfl C [] rfl rfl hs
theorem Dc {p : Code} {Q : Exit → Act → World → Prop} {w : World} (n : Nat) (h : Code.rounds P p Q n a w) : (Code.loop p).wp P Q a w := wp_loop_rounds n h
theorem mL {p : Code} {Q : Exit → Act → World → Prop} {w : World} {n : Nat} (h : p.wp P (Exit.then (Code.rounds P p Q n) Q) a w) : Code.rounds P p Q (n + 1) a w := h
end
abbrev I (n : Int) : Value := .int .i64 n
inductive Stp (P : Program) (ops : Array Oper) (S : World → Prop) (D : List Deferred) (N : Nat) (l : List (Nat × Value)) (o : Oper) (v : Value) : Prop where
 | yes (hw : ∀ a, Kd D a N l → Region.wanted o (yielded ops a.tmps) = true) (hr : ∀ a, Kd D a N l → Rd P S a o v)
 | no (hw : ∀ a, Kd D a N l → Region.wanted o (yielded ops a.tmps) = false) (hv : undef = v)
section
variable {P : Program} {base : Nat} {W w : World} {L : List mT} {S : World → Prop} {D : List Deferred} {a : Act} {N : Nat} {l : List (Nat × Value)} {o : Oper} {v : Value} {post : Value → World → Prop}
  {ops : Array Oper} {Q : Exit → Act → World → Prop} {R : Act → World → Prop} {rest : List Oper} {d : Nat} {f : List Nat}
theorem jJ (K : Kd D a N l) (M : Mem base W w L) (k : ∀ a', Kd D a' N ((d, v) :: l) → wpList P ops Q rest a' w) (hd : o.dst = some d := by exact rfl) (hN : Nat.blt d N = true := by exact rfl)
    (hs : Stp P ops (fun w => Mem base W w L) D N l o v := by
      first
      | exact .no (fun a K => K.no rfl rfl rfl rfl) rfl
      | exact .no (fun a K => K.Z4 rfl rfl rfl) rfl
      | exact .yes (by first | exact fun a K => aA rfl | exact fun a K => K.yes rfl rfl rfl) (by
         first
         | exact fun a K => dL rfl K rfl
         | exact fun a K => eV rfl K rfl
         | exact fun a K => jA rfl K rfl rfl
         | exact fun a K => mD rfl K rfl rfl
         | exact fun a K => oC rfl K rfl
         | exact fun a K => BP rfl K rfl rfl
         | exact fun a K => rd_not rfl K rfl
         | exact fun a K => nY rfl K rfl rfl
         | exact fun a K => nZ rfl K rfl rfl
         | exact fun a K => DA rfl K rfl rfl
         | exact fun a K => DB rfl K rfl rfl
         | exact fun a K => FF rfl K rfl rfl
         | exact fun a K => I9 rfl K rfl rfl
         | exact fun a K => GZ rfl K rfl rfl
         | exact fun a K => I7 rfl K rfl rfl
         | exact fun a K => I8 rfl K rfl rfl
         | exact fun a K => Ev rfl K rfl rfl
         | exact fun a K => Eu rfl K rfl rfl
         | exact fun a K => Et rfl K rfl rfl)) : wpList P ops Q (o :: rest) a w := by
  cases hs with
  | yes hw hr => exact Vu K (hw a K) hd hN (hr a K) M k
  | no hw hv => subst hv; exact aCZ K (hw a K) hd hN k
theorem kO (M : Mem base W w L) (k : ∀ a', Kd D a' N ((d, v) :: l) → wpList P ops Q rest a' w) (hd : o.dst = some d := by exact rfl) (hN : Nat.blt d N = true := by exact rfl)
    (hs : Stp P ops (fun w => Mem base W w L) D N l o v := by
      first
      | exact .no (fun a K => K.no rfl rfl rfl rfl) rfl
      | exact .no (fun a K => K.Z4 rfl rfl rfl) rfl
      | exact .yes (by first | exact fun a K => aA rfl | exact fun a K => K.yes rfl rfl rfl) (by
         first
         | exact fun a K => dL rfl K rfl
         | exact fun a K => eV rfl K rfl
         | exact fun a K => jA rfl K rfl rfl
         | exact fun a K => mD rfl K rfl rfl
         | exact fun a K => oC rfl K rfl
         | exact fun a K => BP rfl K rfl rfl
         | exact fun a K => rd_not rfl K rfl
         | exact fun a K => nY rfl K rfl rfl
         | exact fun a K => nZ rfl K rfl rfl
         | exact fun a K => DA rfl K rfl rfl
         | exact fun a K => DB rfl K rfl rfl
         | exact fun a K => FF rfl K rfl rfl
         | exact fun a K => I9 rfl K rfl rfl
         | exact fun a K => GZ rfl K rfl rfl
         | exact fun a K => I7 rfl K rfl rfl
         | exact fun a K => I8 rfl K rfl rfl
         | exact fun a K => Ev rfl K rfl rfl
         | exact fun a K => Eu rfl K rfl rfl
         | exact fun a K => Et rfl K rfl rfl)) : ∀ a, Kd D a N l → wpList P ops Q (o :: rest) a w := fun a K => jJ K M k hd hN hs
theorem dI (hr : ∀ a, Kd D a N l → Rd P (fun w => Mem base W w L) a o v) (M : Mem base W w L) (k : ∀ a', Kd D a' N ((d, v) :: l) → wpList P ops Q rest a' w)
  (hw : ∀ a, Kd D a N l → Region.wanted o (yielded ops a.tmps) = true := by first | exact fun a K => aA rfl | exact fun a K => K.yes rfl rfl rfl) (hd : o.dst = some d := by exact rfl) (hN : Nat.blt d N = true := by exact rfl) :
  ∀ a, Kd D a N l → wpList P ops Q (o :: rest) a w := fun a K => Vu K (hw a K) hd hN (hr a K) M k
theorem qJ (K : Kd D a N l) (hr : Rd P (fun w => Mem base W w L) a o v) (M : Mem base W w L) (k : ∀ a', Kd D a' N ((d, v) :: l) → wpList P ops Q rest a' w)
  (hw : ∀ a, Kd D a N l → Region.wanted o (yielded ops a.tmps) = true := by first | exact fun a K => aA rfl | exact fun a K => K.yes rfl rfl rfl) (hd : o.dst = some d := by exact rfl) (hN : Nat.blt d N = true := by exact rfl) :
  wpList P ops Q (o :: rest) a w := Vu K (hw a K) hd hN hr M k
theorem jR (K : Kd D a N l) (h : Ac P o a w post) (k : ∀ v a' w', post v w' → Kd D a' N ((d, v) :: l) → wpList P ops Q rest a' w')
  (hw : ∀ a, Kd D a N l → Region.wanted o (yielded ops a.tmps) = true := by first | exact fun a K => aA rfl | exact fun a K => K.yes rfl rfl rfl) (hd : o.dst = some d := by exact rfl) (hN : Nat.blt d N = true := by exact rfl) :
  wpList P ops Q (o :: rest) a w := Ye K (hw a K) hd hN h k
theorem wB (K : Kd D a N l) (h : Ac P o a w post) (k : ∀ v a' w', post v w' → Kd D a' N l → wpList P ops Q rest a' w')
  (hw : ∀ a, Kd D a N l → Region.wanted o (yielded ops a.tmps) = true := by first | exact fun a K => aA rfl | exact fun a K => K.yes rfl rfl rfl) (hd : o.dst = none := by exact rfl) :
  wpList P ops Q (o :: rest) a w := Yf K (hw a K) hd h k
theorem Y1 (K : Kd D a N l) (k : ∀ a', Kd D a' N ((d, v) :: l) → qB P ops S R (marked f rest) a' w) (hd : o.dst = some d := by exact rfl) (hN : Nat.blt d N = true := by exact rfl)
    (hs : Stp P ops S D N l o v := by
      first
      | exact .no (fun a K => K.no rfl rfl rfl rfl) rfl
      | exact .no (fun a K => K.Z4 rfl rfl rfl) rfl
      | exact .yes (by first | exact fun a K => aA rfl | exact fun a K => K.yes rfl rfl rfl) (by
         first
         | exact fun a K => dL rfl K rfl
         | exact fun a K => eV rfl K rfl
         | exact fun a K => jA rfl K rfl rfl
         | exact fun a K => mD rfl K rfl rfl
         | exact fun a K => oC rfl K rfl
         | exact fun a K => BP rfl K rfl rfl
         | exact fun a K => rd_not rfl K rfl
         | exact fun a K => nY rfl K rfl rfl
         | exact fun a K => nZ rfl K rfl rfl
         | exact fun a K => DA rfl K rfl rfl
         | exact fun a K => DB rfl K rfl rfl
         | exact fun a K => FF rfl K rfl rfl
         | exact fun a K => I9 rfl K rfl rfl
         | exact fun a K => GZ rfl K rfl rfl
         | exact fun a K => I7 rfl K rfl rfl
         | exact fun a K => I8 rfl K rfl rfl
         | exact fun a K => Ev rfl K rfl rfl
         | exact fun a K => Eu rfl K rfl rfl
         | exact fun a K => Et rfl K rfl rfl)) : qB P ops S R (marked (0 :: f) (o :: rest)) a w := by
  cases hs with
  | yes hw hr => exact Yg K (hw a K) hd hN (hr a K) k
  | no hw hv => subst hv; exact aC0 K (hw a K) hd hN k
theorem Y2 (k : ∀ a', Kd D a' N ((d, v) :: l) → qB P ops S R (marked f rest) a' w) (hd : o.dst = some d := by exact rfl) (hN : Nat.blt d N = true := by exact rfl)
    (hs : Stp P ops S D N l o v := by
      first
      | exact .no (fun a K => K.no rfl rfl rfl rfl) rfl
      | exact .no (fun a K => K.Z4 rfl rfl rfl) rfl
      | exact .yes (by first | exact fun a K => aA rfl | exact fun a K => K.yes rfl rfl rfl) (by
         first
         | exact fun a K => dL rfl K rfl
         | exact fun a K => eV rfl K rfl
         | exact fun a K => jA rfl K rfl rfl
         | exact fun a K => mD rfl K rfl rfl
         | exact fun a K => oC rfl K rfl
         | exact fun a K => BP rfl K rfl rfl
         | exact fun a K => rd_not rfl K rfl
         | exact fun a K => nY rfl K rfl rfl
         | exact fun a K => nZ rfl K rfl rfl
         | exact fun a K => DA rfl K rfl rfl
         | exact fun a K => DB rfl K rfl rfl
         | exact fun a K => FF rfl K rfl rfl
         | exact fun a K => I9 rfl K rfl rfl
         | exact fun a K => GZ rfl K rfl rfl
         | exact fun a K => I7 rfl K rfl rfl
         | exact fun a K => I8 rfl K rfl rfl
         | exact fun a K => Ev rfl K rfl rfl
         | exact fun a K => Eu rfl K rfl rfl
         | exact fun a K => Et rfl K rfl rfl)) : ∀ a, Kd D a N l → qB P ops S R (marked (0 :: f) (o :: rest)) a w := fun a K => Y1 K k hd hN hs
theorem nX (hr : ∀ a, Kd D a N l → Rd P S a o v) (k : ∀ a', Kd D a' N ((d, v) :: l) → qB P ops S R (marked f rest) a' w)
  (hw : ∀ a, Kd D a N l → Region.wanted o (yielded ops a.tmps) = true := by first | exact fun a K => aA rfl | exact fun a K => K.yes rfl rfl rfl) (hd : o.dst = some d := by exact rfl) (hN : Nat.blt d N = true := by exact rfl) :
  ∀ a, Kd D a N l → qB P ops S R (marked (0 :: f) (o :: rest)) a w := fun a K => Yg K (hw a K) hd hN (hr a K) k
theorem Lo (K : Kd D a N l) (hr : Rd P S a o v) (k : ∀ a', Kd D a' N ((d, v) :: l) → qB P ops S R (marked f rest) a' w)
  (hw : ∀ a, Kd D a N l → Region.wanted o (yielded ops a.tmps) = true := by first | exact fun a K => aA rfl | exact fun a K => K.yes rfl rfl rfl) (hd : o.dst = some d := by exact rfl) (hN : Nat.blt d N = true := by exact rfl) :
  qB P ops S R (marked (0 :: f) (o :: rest)) a w := Yg K (hw a K) hd hN hr k
theorem wH (K : Kd D a N l) (h : Ac P o a w post) (k : ∀ v a' w', post v w' → Kd D a' N ((d, v) :: l) → S w' ∧ qB P ops S R (marked f rest) a' w')
  (hw : ∀ a, Kd D a N l → Region.wanted o (yielded ops a.tmps) = true := by first | exact fun a K => aA rfl | exact fun a K => K.yes rfl rfl rfl) (hd : o.dst = some d := by exact rfl) (hN : Nat.blt d N = true := by exact rfl) :
  qB P ops S R (marked (1 :: f) (o :: rest)) a w := Z9 K (hw a K) hd hN h k
theorem Ss (K : Kd D a N l) (h : Ac P o a w post) (k : ∀ v a' w', post v w' → Kd D a' N l → qB P ops S R (marked f rest) a' w')
  (hw : ∀ a, Kd D a N l → Region.wanted o (yielded ops a.tmps) = true := by first | exact fun a K => aA rfl | exact fun a K => K.yes rfl rfl rfl) (hd : o.dst = none := by exact rfl) :
  qB P ops S R (marked (2 :: f) (o :: rest)) a w := aAa K (hw a K) hd h k
end
theorem xV (l : List UInt8) : (bs l).size = l.length := by simp [bs, ByteArray.size]
theorem Lp (l : List UInt8) : (bs l).toList = l := ByteArray.toList_mk l
theorem RR (l m : List UInt8) : bs l ++ bs m = bs (l ++ m) := by
 apply ByteArray.ext
 simp [bs, ByteArray.data_append]
section
variable {P : Program} {base : Nat} {W w : World} {L : List mT} {S : World → Prop} {D : List Deferred} {a : Act} {N : Nat} {l : List (Nat × Value)} {o : Oper} {x y ix : Operand} {t t' e : TypeId} {m n p q : Int} {k k' : IntKind}
  {xs ys zs : List UInt8} {A : Option Addr} {c : Nat} {ns : List Int}
theorem iM (ho : o.op = .call { callee := .builtin .len, args := #[x], argTypes := #[t] }) (h : P.underlying t = some .string) (K : Kd D a N l) (hx : kQ l x = some (.string (bs xs))) : Rd P S a o (.int .i64 xs.length) := by
 have := Vr (P := P) (S := S) ho h K hx;rw [xV] at this;exact this
theorem sT (ho : o.op = .index t x ix) (ht : P.underlying t = some .string) (K : Kd D a N l) (hx : kQ l x = some (.string (bs xs))) (hi : kQ l ix = some (.int k n)) {b : UInt8} (he : idx xs n = some b) : Rd P S a o (.int .u8 (b.toNat : Int)) :=
 Yd ho ht K hx hi he
theorem Fm (ho : o.op = .binOp .add t x y t') (K : Kd D a N l) (hx : kQ l x = some (.string (bs xs))) (hy : kQ l y = some (.string (bs ys))) (hz : Je xs ys = some zs) : Rd P S a o (.string (bs zs)) := by
 obtain ⟨rfl, h⟩ := QP hz;refine tU ho K hx hy fun w => ?_
 have h1 := xV xs;have h2 := xV ys
 simp [eqGuard, binOp_string_add, Op.stringOp, RR]
 omega
theorem DS (ho : o.op = .binOp .eql t x y t') (K : Kd D a N l) (hx : kQ l x = some (.string (bs xs))) (hy : kQ l y = some (.string (bs ys))) : Rd P S a o (.bool (decide (xs = ys))) :=
 tU ho K hx hy fun w => by
  have e : (xs == ys) = decide (xs = ys) := by rw [Bool.eq_iff_iff]; simp
  rw [Sem.run_bind]; simp [eqGuard, binOp_string_eql, Lp, e]
theorem zQ (ho : o.op = .binOp .neq t x y t') (K : Kd D a N l) (hx : kQ l x = some (.string (bs xs))) (hy : kQ l y = some (.string (bs ys))) : Rd P S a o (.bool (!decide (xs = ys))) :=
 tU ho K hx hy fun w => by
  have e : (xs == ys) = decide (xs = ys) := by rw [Bool.eq_iff_iff]; simp
  rw [Sem.run_bind]; simp [eqGuard, binOp_string_neq, Lp, e]
theorem tQ {b : Nat} (ho : o.op = .convert t t' x) (ht : Kg P t e 1 b = true) (he : P.underlying e = some (.int .u8)) (hd : P.underlying t' = some .string) (K : Kd D a N l) (hx : kQ l x = some (.slice A ns.length c)) (hb : ∀ w, S w → SL w (cI .u8) A ns) : Rd P S a o (.string (bs (toB ns))) := fun w hS => by
 obtain ⟨hu, _⟩ := oS ht;unfold execOp;simp only [ho, K.ev hx]
 have key : (convert t t' (.slice A ns.length c)).run P w = .ok (.string (bs (toB ns))) w := by
  by_cases h0 : 0 < ns.length
  ·obtain ⟨b, off, rfl, hc⟩ := hb w hS h0;refine run_convert_bytes_arg w t e hu he b off ns.length c ns rfl (fun i hi => ?_) t' hd;refine hc i _ ?_;have := vB.Al (cI .u8) ns i 0 ns[i] (.int .u8 ns[i]) (List.getElem?_eq_getElem hi) rfl;rw [List.getD_eq_getElem?_getD, List.getElem?_eq_getElem hi];have h1 : (cI .u8).size = 1 := rfl;rw [h1, Nat.mul_one, Nat.add_zero] at this;exact this
  ·have hn : ns = [] := List.eq_nil_of_length_eq_zero (by omega);subst hn;cases A with
   | none => exact run_convert_bytes_nil w t e hu he _ _ t' hd
   | some ad =>
    rw [run_convert_bytes_string w t t' e (some ad) _ c hu he hd];exact run_bytesToString w ad 0 c [] (run_loadCells_list (P := P) w ad [] (fun j v hj => by simp at hj))
 simp [key]
theorem Hl {b : Nat} (ho : o.op = .convert t t' x) (ht : Kg P t e 1 b = true) (he : P.underlying e = some (.int .u8)) (hd : P.underlying t' = some .string) (K : Kd D a N l) (hx : kQ l x = some (.slice A ns.length c)) (M : Mem base W w L) (R : SL w (cI .u8) A ns) :
  Ac P o a w fun v w' => v = .string (bs (toB ns)) ∧ Mem base W w' L :=
 y9 (tQ (S := fun w' => w' = w) ho ht he hd K hx (fun w' hw => hw ▸ R) w rfl) ⟨rfl, M⟩
theorem iZ {lo hi : Option Operand} (ho : o.op = .slice t x lo hi none) (ht : P.underlying t = some .string) (K : Kd D a N l) (hx : kQ l x = some (.string (bs xs)))
  (hlo : (match lo with | some z => kQ l z = some (.int k p) | none => p = 0)) (hhi : (match hi with | some z => kQ l z = some (.int k' q) | none => q = xs.length)) (hy : Dw xs p q = some ys) : Rd P S a o (.string (bs ys)) := fun w _ => by
 obtain ⟨h0, h1, h2, rfl⟩ := Ga hy;have hs : ((bs xs).size : Int) = xs.length := by rw [xV]
 have hex : (bs xs).extract p.toNat q.toNat = bs ((xs.take q.toNat).drop p.toNat) := by
  rw [show bs xs = ByteArray.mk xs.toArray from rfl, ByteArray.extract_mk, List.drop_take]; rfl
 have hS : ∀ a b c, (Instr.sliceAt t (.string (bs xs)) a b c).run P w = (Instr.slice t (.string (bs xs)) a b c).run P w := fun a b c => by rw [run_sliceAt_string w t _ a b c ht]
 unfold execOp;cases lo with
 | none =>
  simp only at hlo; subst hlo;cases hi with
  | none =>
   simp only at hhi; subst hhi;have := run_slice_string_all (P := P) w t (bs xs) ht;rw [xV] at this;rw [Int.toNat_zero, Int.toNat_natCast] at hex;rw [hex] at this;simp only [ho, K.ev hx, Sem.run_bind, Option.map, hS, this]
   simp
  | some z =>
   simp only at hhi;have := run_slice_string_to_if (P := P) w t (bs xs) k' q ht;rw [if_pos ⟨by omega, by omega⟩] at this;rw [Int.toNat_zero] at hex;rw [hex] at this;simp only [ho, K.ev hx, K.ev hhi, Sem.run_bind, Option.map, hS, this]
   simp
 | some z =>
  simp only at hlo;cases hi with
  | none =>
   simp only at hhi; subst hhi;have := run_slice_string_from_if (P := P) w t (bs xs) k p ht;rw [if_pos ⟨by omega, by omega⟩, xV] at this;rw [Int.toNat_natCast] at hex;rw [hex] at this;simp only [ho, K.ev hx, K.ev hlo, Sem.run_bind, Option.map, hS, this]
   simp
  | some z2 =>
   simp only at hhi;have := run_slice_string (P := P) w t (bs xs) k k' p q ht h0 h1 (by omega);rw [hex] at this;simp only [ho, K.ev hx, K.ev hlo, K.ev hhi, Sem.run_bind, Option.map, hS, this]
   simp
theorem Hm (s : List UInt8) : Lib.strCells (bs s) = (cI .u8).all (sN s) := by
 show s.map (fun b => Value.int .u8 b.toNat) = _
 induction s with
 | nil => rfl
 | cons x s ih =>
  show _ = (cI .u8).enc (x.toNat : Int) ++ (cI .u8).all (sN s);rw [List.map_cons, ih]; rfl
theorem CH (s : List UInt8) : (sN s).length = s.length := by simp [sN]
theorem RT {i : TypeInfo} {v v' : Value} {n : Nat} {vs : List Value} {w' : World} (s : ByteArray) (ht : P.underlying t = some (.slice e)) (hu : P.underlying t' = some .string) (hi : P.info? e = some i) (hz : i.zero = some (.int .u8 0)) (hsize : i.size = 1) (hby : i.bytes = 1)
  (hown : w.ownsRow 0 e 1 v n vs) (hb : n + s.size ≤ 140737488355328) (ty : TypeId) (hr : (Builtin.append_ #[t, t'] ty #[v, .string s]).run P w = .ok v' w') (h0 : v ≠ .slice none 0 0 ∨ 0 < s.size) : v'.ownBlock = v.ownBlock ∨ v'.ownBlock = some w.heap.size := by
 have hxl : vs.length = n := by simpa using hown.1
 rcases hown.2 with ⟨rfl, rfl⟩ | ⟨g, cap, cur, rfl, hbg, hg, hnc, hcm, hcs, htake⟩
 ·have hm : 0 < s.size := by
   rcases h0 with h0 | h0
   ·exact absurd rfl h0
   ·exact h0
  have := run_append_nil_string (P := P) w t t' ty e i (.int .u8 0) ht hu hi hz s (by omega) (by omega) (by rw [hby]; omega);rw [hr] at this
  injection this with h1 _
  right; rw [h1]; rfl
 ·by_cases hroom : n + s.size ≤ cap
  ·have := Lib.run_append_room_string (P := P) w t t' ty e i ht hu hi hsize g n cap cur hg s hroom (by omega);rw [hr] at this
   injection this with h1 _
   left; rw [h1]; rfl
  ·have holds : ∀ j u, vs[j]? = some u → w.cell? ((⟨g, 0, none⟩ : Addr).add j) = some u := hown.cells (g := g) rfl;have := Lib.run_append_grow_string (P := P) w t t' ty e i (.int .u8 0) ht hu hi hz ⟨g, 0, none⟩ n cap vs (by rw [hsize]; simpa using hxl) holds s (by omega) (by omega) (by rw [hby]; exact growslice_fits (by omega) (by omega));rw [hr] at this
   injection this with h1 _
   right; rw [h1]; rfl
theorem Fo {zs : List Int} (ho : o.op = .call { callee := .builtin .append, args := #[x, y], argTypes := #[t, t'] }) (ht : Kg P t e 1 1 = true) (hu : P.underlying t' = some .string) (hz : (P.info? e).bind (·.zero) = some (.int .u8 0)) (K : Kd D a N l)
  (hx : kQ l x = some (.slice A ns.length c)) (hy : kQ l y = some (.string (bs ys))) (i : Nat) (M : Mem base W w L) (hi : L[i]? = some (.row e 1 A ns.length c ((cI .u8).all ns))) (hlen : app 1 ns (sN ys) = some zs) :
  Ac P o a w fun v w' => ∃ A' c'', v = .slice A' zs.length c'' ∧ Mem base W w' (L.set i (.row e 1 A' zs.length c'' ((cI .u8).all zs))) := by
 obtain ⟨rfl, hbytes⟩ := MW hlen;rw [CH] at hbytes;obtain ⟨hsl, inf, t8, hsz, hby⟩ := oS ht;have hzz : inf.zero = some (.int .u8 0) := by rw [t8] at hz; exact hz
 have hown := M.has i _ hi;have hsize : (bs ys).size = ys.length := xV ys;have hb2 : ns.length + (bs ys).size ≤ 140737488355328 := by rw [hsize]; omega
 obtain ⟨v', w', hr, h2, h3, h4⟩ := Lib.run_append_own_string (P := P) w 0 t t' o.type e inf hsl hu t8 hzz hsz hby (.slice A ns.length c) ns.length ((cI .u8).all ns) hown (bs ys) (by simp only [maxLen]; omega) hb2 (Nat.zero_le _);rw [Hm, hsize, ← vB.all_append] at h2
 by_cases h0 : (Value.slice A ns.length c) = .slice none 0 0 ∧ ys = []
 ·obtain ⟨h00, rfl⟩ := h0
  injection h00 with e1 e2 e3
  subst e1 e3;have hns : ns = [] := List.eq_nil_of_length_eq_zero e2;subst hns
  have hr2 : (Builtin.append_ #[t, t'] o.type #[.slice none ([] : List Int).length 0, .string (bs [])]).run P w = .ok (.slice none 0 0) w := by
   have hf := Lib.run_firstCells_string (P := P) w 1 (bs []);have hm : (bs []).size = 0 := rfl;rw [hm] at hf
   simp [Builtin.append_, run_underlying hsl, run_underlying hu, sizeOf, typeInfo, t8, hsz, Builtin.lenOf, hm, hf]
  refine y9 (v := .slice none 0 0) (w' := w) ?_ ⟨none, 0, rfl, ?_⟩
  ·unfold execOp;simp only [ho, resolve, invoke, builtin, Sem.run_bind, Sem.run_pure, Result.andThen_ok, List.map_toArray, List.map_cons, List.map_nil, K.ev hx, K.ev hy];rw [hr2]; rfl
  ·have : L.set i (.row e 1 none (([] : List Int) ++ sN []).length 0 ((cI .u8).all ([] ++ sN []))) = L := by
    obtain ⟨hlt, he⟩ := List.getElem?_eq_some_iff.1 hi;exact he ▸ List.set_getElem_self hlt
   rw [this]; exact M
 have hne : (Value.slice A ns.length c) ≠ .slice none 0 0 ∨ 0 < (bs ys).size := by
  by_cases hy0 : ys = []
  ·left; exact fun e => h0 ⟨e, hy0⟩
  ·right; rw [hsize]; exact List.length_pos_iff.2 hy0
 have hpl := RT (bs ys) hsl hu t8 hzz hsz hby hown hb2 o.type hr hne
 have hv' : v' ≠ .slice none 0 0 := fun e => by
  obtain ⟨q1, q2⟩ := h4.1 e;rw [hsize] at q2;exact h0 ⟨q1, List.eq_nil_of_length_eq_zero q2⟩
 rcases h2.2 with ⟨e1, _⟩ | ⟨g, cap, cur, rfl, _⟩
 ·exact absurd e1 hv'
 refine y9 (v := .slice (some ⟨g, 0, none⟩) (ns.length + ys.length) cap) (w' := w') ?_ ⟨some ⟨g, 0, none⟩, cap, by rw [List.length_append, CH], ?_⟩
 ·unfold execOp;simp only [ho, resolve, invoke, builtin, Sem.run_bind, Sem.run_pure, Result.andThen_ok, List.map_toArray, List.map_cons, List.map_nil, K.ev hx, K.ev hy];rw [hr]; rfl
 ·have h3' : w.grownBy w' (A.map (·.block)) := by
   cases A with
   | none => exact h3
   | some ad => exact h3
  rw [List.length_append, CH];refine M.grown i hi h3' h2 ?_
  rcases hpl with hpl | hpl
  ·left
   cases A with
   | none => simp [Value.ownBlock] at hpl
   | some ad => simpa [Value.ownBlock] using hpl.symm
  ·right
   simp [Value.ownBlock] at hpl
   omega
end
end
section
open Go.RowKit Go.WideMaps
section
variable {P : Program} {base : Nat} {W w : World} {L : List mT} {S : World → Prop} {D : List Deferred} {a : Act} {N : Nat} {l : List (Nat × Value)} {o : Oper} {x y z : Operand} {t k e T : TypeId} {g n c : Nat} {A : Option Addr}
  {m m' : List (List UInt8 × Int)} {s : List UInt8} {r : Int × Bool} {v : Int}
theorem Mem.swap {e e' : mT} (M : Mem base W w L) (i : Nat) (hi : L[i]? = some e) (h : mT.holds w e') (hf : e'.foot = e.foot) : Mem base W w (L.set i e') :=
 M.SS i hi (Below.refl _ _) h (fun _ _ _ => rfl) (fun g hg => .inl (hf ▸ hg)) M.QO
theorem Mem.W3 (e : TypeId) (M : Mem base W w (.blk g T [.pointer none, .slice none 0 0] :: L)) : Mem base W w (.row e 1 none ([] : List UInt8).length 0 ((cI .u8).all (sN ([] : List UInt8))) :: .GV g T none ([] : List UInt8).length 0 :: L) :=
 Mem.aJ e 1 (cI .u8) (M.swap 0 rfl (show mT.holds w (.GV g T none 0 0) from ⟨none, .inl rfl, M.has 0 _ rfl⟩) rfl)
theorem Mem.aBQ (M : Mem base W w L) (i : Nat) (hi : L[i]? = some (.blk g T [.pointer (some ⟨g, 0, none⟩), .slice A n c])) : Mem base W w (L.set i (.GV g T A n c)) :=
 M.swap i hi (show mT.holds w (.GV g T A n c) from ⟨_, .inr rfl, M.has i _ hi⟩) rfl
theorem Mem.builder {b : List UInt8} (M : Mem base W w (.GV g T A b.length c :: .row e 1 A b.length c ((cI .u8).all (sN b)) :: L)) : Lib.IsBuilder T e base g (Lib.byteCells b) w := by
 obtain ⟨p, hp, hb⟩ := M.has 0 _ rfl;have hrow : w.ownsRow 0 e 1 (.slice A b.length c) b.length ((cI .u8).all (sN b)) := M.has 1 _ rfl;rw [← Hm] at hrow;have hup := M.up 0 _ g rfl rfl
 have hat : Lib.BuilderAt T e base g (.pointer p) (Lib.byteCells b) w := by
  refine ⟨hup, .slice A b.length c, hb, ?_, ?_⟩
  ·rw [Lib.byteCells_length];obtain ⟨h1, h2⟩ := hrow;refine ⟨h1, ?_⟩
   rcases h2 with h2 | ⟨g', cap, cur, q1, q2, q3⟩
   ·exact .inl h2
   ·refine .inr ⟨g', cap, cur, q1, ?_, q3⟩
    injection q1 with q1 _ _
    exact M.up 1 _ g' rfl (by simp [mT.foot, q1])
  ·intro h;cases A with
   | none => simp [Value.ownBlock] at h
   | some ad =>
    have h' : ad.block = g := by simpa [Value.ownBlock] using h
    have := M.one 0 1 _ _ g rfl rfl rfl (by simp [mT.foot, h'])
    omega
 rcases hp with rfl | rfl
 ·exact .inl hat
 ·exact .inr hat
theorem gX {α : Type} {C : vB α} {xs : List α} {el : α} {b s' : Nat} {i : Int} {kk : IntKind} {w' : World} (ho : o.op = .indexAddr t x y) (ht : Kg P t e s' b = true) (K : Kd D a N l) (hx : kQ l x = some (.slice A xs.length c)) (hi : kQ l y = some (.int kk i)) (hb : SL w' C A xs) (he : idx xs i = some el) : Rd P S a o (.pointer (some ((ST A).add (i.toNat * s')))) := fun w hS => by
 obtain ⟨hu, inf, t8, hs, _⟩ := oS ht;obtain ⟨h0, hlt, hel⟩ := yX he;obtain ⟨b', o', hA, hc⟩ := hb (by omega);have h1 : i < xs.length := by omega
 unfold execOp;subst hA
 simp [ho, K.ev hx, K.ev hi, Instr.indexAt, asIntOf, run_underlying hu, sizeOf, typeInfo, t8, hs, h0, h1, ST]
theorem wI {O : Exit → Act → World → Prop} {ops : Array Oper} {f : List Nat} {d cc n' : Nat} {u : Value} {R : Act → World → Prop} {rem : List Nat} (Cy : List Nat) (hc : (rem.erase cc == Cy) = true) (ho : ops[cc]? = some o) (K : Kd D a N l) (hw : Region.wanted o (yielded ops a.tmps) = true) (hd : o.dst = some d) (hN : Nat.blt d N = true)
  (hr : Rd P (fun w => Mem base W w L) a o u) (M : Mem base W w L) (k : ∀ a', Kd D a' N ((d, u) :: l) → (kL f cc = true → S w) ∧ xH P O ops S (o9 f) (kL f) R n' Cy a' w) :
  wpOp P ops O cc (fun a' w' => (kL f cc = true → S w') ∧ xH P O ops S (o9 f) (kL f) R n' (rem.erase cc) a' w') a w :=
 k7 Cy hc ho K hw hd hN (post := fun v' w' => v' = u ∧ w' = w) (y9 (hr w M) ⟨rfl, rfl⟩) fun v' a' w' hp K' => by obtain ⟨rfl, rfl⟩ := hp; exact k a' K'
theorem aBR {Q : Exit → Act → World → Prop} {St Rt : Type} {Rel : St → Act → World → Prop} {kk : St → Option Rt} {lf : (St → Option Rt) → Nat → St → Option Rt} {r : Rt} {p : Code} {n : Nat} {st : St}
  (h : lf kk n st = some r) (hz : ∀ kk st, lf kk 0 st = none) (h0 : Rel st a w) (hk : ∀ st a w, Rel st a w → kk st = some r → Q .ret a w)
  (round : ∀ (kk : St → Option Rt) n st a w, (∀ st a w, Rel st a w → kk st = some r → Q .ret a w) → Rel st a w → lf kk (n + 1) st = some r → p.wp P (Exit.then (fun a w => ∃ st, Rel st a w ∧ lf kk n st = some r) Q) a w) : (Code.loop p).wp P Q a w := by
 refine SW (I := fun n a w => ∃ st, Rel st a w ∧ lf kk n st = some r) n ⟨st, h0, h⟩ (fun a w ⟨st, _, h⟩ => by rw [hz] at h; cases h) ?_;rintro n a w ⟨st, hr, h⟩;exact round kk n st a w hk hr h
theorem inS (i : Nat) (h : L[i]? = some (.Gb P k e g m)) : ∀ w, Mem base W w L → SMap P k e w g m := fun _ M => M.has i _ h
theorem SMap.new (w : World) : SMap P k e (w.alloc (.map #[] 0)) w.heap.size [] := ⟨.map [], World.ownsMap_made w P k _, fun s => ⟨rfl, fun z => rfl⟩⟩
theorem Pp (ho : o.op = .makeMap t none) (k e : TypeId) (M : Mem base W w L) : Ac P o a w fun v w' => ∃ g, v = .map (some g) ∧ Mem base W w' (.Gb P k e g [] :: L) := by
 refine y9 (v := .map (some w.heap.size)) (w' := w.alloc (.map #[] 0)) ?_ ⟨_, rfl, ?_⟩
 ·unfold execOp
  simp [ho, run_makeMap_plain]
 ·refine (M.below ((Below.refl _ _).alloc (Nat.le_refl _) _)).cons (show mT.holds _ (.Gb P k e w.heap.size []) from SMap.new w) fun g hg => ?_
  simp [mT.foot] at hg
  subst hg;exact ⟨M.sz, fun i e' h he => by have := M.GW i e' _ h he; omega⟩
theorem Qv (ho : o.op = .lookup t x y true) (ht : P.underlying t = some (.map k e)) (hk : P.underlying k = some .string) (he : P.underlying e = some (.int .i64)) (hz : (P.info? e).bind (·.zero) = some (.int .i64 0)) (K : Kd D a N l)
  (hx : kQ l x = some (.map (some g))) (hy : kQ l y = some (.string (bs s))) (hM : ∀ w, S w → SMap P k e w g m) (hl : I5 m s = some r) : Rd P S a o (.tuple #[.int .i64 r.1, .bool r.2]) := fun w hS => by
 obtain ⟨rfl, hs⟩ := OQ hl;obtain ⟨D, hown, hD⟩ := hM w hS
 have hz : ∀ w, (zeroValue e).run P w = .ok (.int .i64 0) w := fun w => by
  simp only [Option.bind_eq_some_iff] at hz;obtain ⟨inf, t8, hz0⟩ := hz
  simp [zeroValue, typeInfo, t8, hz0]
 have hkey : keyOf P k (.string (bs s)) = some (.string s) := keyOf_string_mk hk (by rw [xV]; unfold maxLen; omega);obtain ⟨v, ps, hrun, hv⟩ := hown.look_ok (Maps.string_keyed hk) ht (hz w) (plainElem_int he (by decide)) hkey;obtain ⟨c, rfl, hc, _⟩ := plainElem_int_inv he hv;obtain ⟨h1, h2⟩ := hD s;simp only [Prod.mk.injEq] at hc
 have hcc : c = (sM m s).getD 0 := by
  have h3 := h2 (.lit (.int .i64 0));rw [hc.1] at h3;cases hm : sM m s with
  | none => rw [hm] at h3; simp at h3; simp [h3]
  | some q => rw [hm] at h3; simp at h3; simp [h3]
 subst hcc;rw [h1] at hrun;unfold execOp
 simp [ho, K.ev hx, K.ev hy, hrun]
theorem Lq (ho : o.op = .mapUpdate t x y z) (ht : P.underlying t = some (.map k e)) (hk : P.underlying k = some .string) (he : P.underlying e = some (.int .i64)) (K : Kd D a N l)
  (hx : kQ l x = some (.map (some g))) (hy : kQ l y = some (.string (bs s))) (hv : kQ l z = some (.int .i64 v)) (i : Nat) (M : Mem W.heap.size W w L) (hi : L[i]? = some (.Gb P k e g m)) (hp : OP m s v = some m') :
  Ac P o a w fun _ w' => Mem W.heap.size W w' (L.set i (.Gb P k e g m')) := by
 obtain ⟨rfl, h1, h2, h3, h4⟩ := QN hp;obtain ⟨D, hown, hD⟩ := M.has i _ hi;have hkey : keyOf P k (.string (bs s)) = some (.string s) := keyOf_string_mk hk (by rw [xV]; unfold maxLen; omega);obtain ⟨w', hrun, hown', hg⟩ := hown.update (Maps.string_keyed hk) ht (by unfold maxLen; omega) hkey (plainElem_int he (WalkArith.wf_i64 ⟨h3, h4⟩));refine ID (w' := w') ?_ (M.Z6 rfl i hi ((Below.refl _ w).grown hg M.sz fun k hk => M.up i _ k hi (by cases hk; rfl)) (show mT.holds w' (.Gb P k e g ((s, v) :: m)) from ⟨_, hown', fun s' => ?_⟩) (fun j hj hne => hg.block j hj fun h => hne (by cases h; rfl)) (fun g' hg' => .inl hg'))
 ·unfold execOp
  simp [ho, K.ev hx, K.ev hy, K.ev hv, hrun]
 ·have hkl : WideAt.IsKeyLit (.string s) := trivial
  by_cases hs : s = s'
  ·subst hs;refine ⟨?_, fun z => ?_⟩
   ·rw [Maps.has_put_same hown.isMap hkl]; simp [sM]
   ·rw [Maps.atKey_put_same hown.isMap hkl]; simp [sM]
  ·have hne : (Lit.string s' : Lit) ≠ .string s := fun h => hs (by injection h with h; exact h.symm)
   obtain ⟨q1, q2⟩ := hD s';refine ⟨?_, fun z => ?_⟩
   ·rw [Maps.has_put_other hne, q1]; simp [sM, hs]
   ·rw [Maps.atKey_put_other hne, q2]; simp [sM, hs]
end
end
section
open Go.RowKit
section
variable {P : Program} {base : Nat} {W w : World} {L H T : List mT} {e : mT}
theorem Mem.tl (M : Mem base W w (e :: L)) : Mem base W w L :=
 ⟨M.low, M.QO, M.bs, fun i e' h => M.has (i + 1) e' h, fun i e' g h hf => M.up (i + 1) e' g h hf, fun i j e1 e2 g h1 h2 f1 f2 => by
  have := M.one (i + 1) (j + 1) e1 e2 g h1 h2 f1 f2
  omega⟩
theorem Mem.kF (n : Nat) (hn : H.length = n) (M : Mem base W w (H ++ T)) (is : List Nat) (h : is.Nodup) (hl : ∀ i ∈ is, i < n) : Mem base W w (I6 H is ++ T) := by
 have h2 : (is ++ (List.range T.length).map (n + ·)).Nodup := by
  rw [List.nodup_append];refine ⟨h, ?_, ?_⟩
  ·exact List.Pairwise.map _ (fun a b (hab : a ≠ b) => show n + a ≠ n + b by omega) List.nodup_range
  ·intro a ha b hb;obtain ⟨j, _, rfl⟩ := List.mem_map.1 hb;have := hl a ha
   omega
 have := M.pick _ h2
 have e : I6 (H ++ T) (is ++ (List.range T.length).map (n + ·)) = I6 H is ++ T := by
  unfold I6;rw [List.map_append]
  congr 1
  ·refine List.map_congr_left fun i hi => ?_
   have := hl i hi;rw [List.getD_eq_getElem?_getD, List.getD_eq_getElem?_getD, List.getElem?_append_left (by omega)]
  ·rw [List.map_map];refine List.ext_getElem? fun i => ?_
   rw [List.getElem?_map]
   by_cases hi : i < T.length
   ·rw [List.getElem?_range hi]
    simp [← hn, List.getElem?_append_right, List.getElem?_eq_getElem hi]
   ·rw [List.getElem?_eq_none (by simp; omega), List.getElem?_eq_none (by omega)]; rfl
 rwa [e] at this
theorem inF {α : Type} {C : vB α} {xs : List α} {g : Nat} (i : Nat) (h : L[i]? = some (.Ow g (C.all xs))) : ∀ w, Mem base W w L → SL w C (some ⟨g, 0, none⟩) xs := fun w M _ => by
 obtain ⟨arr, t, q, hh, hp⟩ := M.has i _ h;refine ⟨g, 0, rfl, fun j u hu => ?_⟩;rw [Nat.zero_add, cell_of_row w g j arr t q hh];exact hp j u hu
variable {S : World → Prop} {D : List Deferred} {a : Act} {N : Nat} {l : List (Nat × Value)} {o : Oper} {x y z : Operand} {t t' et : TypeId} {s : List UInt8}
theorem Lr {b : Nat} (ho : o.op = .convert t t' x) (hs : P.underlying t = some .string) (ht : Kg P t' et 1 b = true) (he : P.underlying et = some (.int .u8)) (K : Kd D a N l) (hx : kQ l x = some (.string (bs s))) (M : Mem base W w L) :
  Ac P o a w fun v w' => ∃ g c, v = .slice (some ⟨g, 0, none⟩) (sN s).length c ∧ (sN s).length ≤ c ∧ Mem base W w' (.Ow g ((cI .u8).all (sN s)) :: L) := by
 obtain ⟨hu, _⟩ := oS ht;have hr := run_bytes_of_string (P := P) w t t' et (bs s) hs hu he;have hsz : (bs s).size = (sN s).length := by rw [CH]; exact xV s
 have hcap : (sN s).length ≤ grownCap w (bs s).size 0 et := by
  rw [← hsz]; exact grownCap_ge _ _ _ _
 have hrun : (execOp a.eval o).run P w = .ok (.value (.slice (some ⟨w.heap.size, 0, none⟩) (sN s).length (grownCap w (bs s).size 0 et))) (w.drew.alloc (.cells (bytesRow (bs s) (grownCap w (bs s).size 0 et)) et ((bytesRow (bs s) (grownCap w (bs s).size 0 et)).size, (bytesRow (bs s) (grownCap w (bs s).size 0 et)).size + 1))) := by
  unfold execOp;simp only [ho, K.ev hx, Sem.run_bind, hr, ← hsz]; rfl
 refine y9 hrun ⟨w.heap.size, grownCap w (bs s).size 0 et, rfl, hcap, ?_⟩
 ·refine ((M.drew).below ((Below.refl _ _).alloc (Nat.le_refl _) _)).cons ?_ fun g hg => ?_
  ·refine ⟨_, _, _, heap_alloc_new w.drew _, fun j u hu => ?_⟩;rw [← Hm] at hu;have hl : (Lib.strCells (bs s)).length = (bs s).size := by unfold Lib.strCells; simp [bs, ByteArray.size]
   unfold bytesRow;have hj := (List.getElem?_eq_some_iff.1 hu).1;rw [hl] at hj;rw [Array.getElem?_append_left (by rw [Array.size_map]; exact hj)]
   have : Lib.strCells (bs s) = ((bs s).data.map (fun b => Value.int .u8 b.toNat)).toList := by
    show s.map _ = _
    simp [bs]
   rw [this] at hu
   simpa using hu
  ·simp [mT.foot] at hg
   subst hg;exact ⟨M.sz, fun i e' h he => by have := M.GW i e' _ h he; omega⟩
theorem NR {e : TypeId} {k : IntKind} (he : P.underlying e = some (.int k)) (hc : P.cellsOf e = 1) (d : Nat) (w : World) : ∀ (m i : Nat) (xs ys : List Int), xs.length = i + m → ys.length = i + m →
  (Op.eqItems (d + 1) e (P.cellsOf e) (xs.map (Value.int k)).toArray (ys.map (Value.int k)).toArray (List.range' i m)).run P w = .ok (decide (xs.drop i = ys.drop i)) w := by
 have hp : P.plainKey e = true := by unfold Program.plainKey; rw [he]
 intro m
 induction m with
 | zero =>
  intro i xs ys hx hy;rw [List.range'_zero, List.drop_of_length_le (by omega), List.drop_of_length_le (by omega)]
  simp [Op.eqItems]
 | succ m ih =>
  intro i xs ys hx hy;have hxi : i < xs.length := by omega
  have hyi : i < ys.length := by omega
  have p1 : (part e (xs.map (Value.int k)).toArray i).run P w = .ok (.int k xs[i]) w := run_part_plain w hp (by simp [hxi]);have p2 : (part e (ys.map (Value.int k)).toArray i).run P w = .ok (.int k ys[i]) w := run_part_plain w hp (by simp [hyi])
  have p3 : (Op.equalIn (d + 1) e (.int k xs[i]) (.int k ys[i])).run P w = .ok (decide (xs[i] = ys[i])) w := by
   simp [Op.equalIn, run_underlying he]
   rw [Bool.eq_iff_iff]; simp
  have hih := ih (i + 1) xs ys (by omega) (by omega);rw [hc] at hih;rw [List.range'_succ, hc];have ex := List.drop_eq_getElem_cons hxi;have ey := List.drop_eq_getElem_cons hyi;unfold Op.eqItems;simp only [Nat.mul_one, Sem.run_bind, p1, p2, p3, Result.andThen_ok]
  by_cases h : xs[i] = ys[i]
  ·rw [decide_eq_true h];simp only [Bool.not_true, Bool.false_eq_true, if_false];rw [hih, ex, ey, h]
   congr 1
   rw [decide_eq_decide];exact ⟨fun q => by rw [q], fun q => (List.cons.inj q).2⟩
  ·rw [decide_eq_false h, ex, ey, decide_eq_false fun q => h (List.cons.inj q).1]
   rfl
theorem Uc {t e : TypeId} {k : IntKind} {n : Nat} (hu : P.underlying t = some (.array n e)) (he : P.underlying e = some (.int k)) (hsz : (P.info? e).map (·.size) = some 1) (xs ys : List Int) (hx : xs.length = n) (hy : ys.length = n) (w : World) :
  (Op.equalIn 10000 t (.agg (xs.map (Value.int k)).toArray) (.agg (ys.map (Value.int k)).toArray)).run P w = .ok (decide (xs = ys)) w := by
 obtain ⟨i, hi, hs⟩ := Option.map_eq_some_iff.1 hsz;have hc : P.cellsOf e = 1 := by unfold Program.cellsOf; rw [hi]; exact hs
 have h1 := run_equalIn_array (P := P) (w := w) 9999 (t := t) (xs.map (Value.int k)).toArray (ys.map (Value.int k)).toArray hu hi;rw [h1, List.range_eq_range'];have := NR he hc 9998 w n 0 xs ys (by omega) (by omega)
 simpa using this
end
section
variable {P : Program} {ops : Array Oper} {Q O : Exit → Act → World → Prop} {S : World → Prop} {qX need : Nat → Bool} {R : Act → World → Prop}
theorem NS (hL : ¬ LetsOut O) {j : Nat} {oi oj : Oper} {v : Value} (hj : ops[j]? = some oj) (hap : oi.apart ops oj = true) (hO : ∀ e a v w, O e (a.put oi.dst v) w → O e a w)
  (hsi : ∀ cs b, oi.op ≠ .select cs b) (hsj : ∀ cs b, oj.op ≠ .select cs b) {K : Act → World → Prop} {a : Act} {w : World}
  (hy : u4 P ops S oi v a) (h : wpOp P ops O j K (a.put oi.dst v) w) :
  wpOp P ops O j (fun a' w' => u4 P ops S oi v a' ∧ K (a'.put oi.dst v) w') a w := by
 obtain ⟨h1, h2, h3⟩ := Oper.apart_spec hap
 have keep : ∀ (a : Act), u4 P ops S oi v a → ∀ u, u4 P ops S oi v (a.put oj.dst u) := fun a hy u =>
  hy.same (execOp_put oi hsi a oj.dst u h3) (wanted_put oi a oj.dst u h3)
 have keepD : ∀ d, u4 P ops S oi v { a with defers := d :: a.defers } := fun d => hy.same rfl rfl
 unfold wpOp at *;simp only [hj] at *;rw [wanted_put oj a oi.dst v h1] at h
 split
 ·rename_i hw
  simp only [hw, if_true] at h
  rcases h with h | ⟨_, hl⟩
  case inr => exact absurd hl hL
  refine .inl ?_;unfold Oper.wp at *;rw [execOp_put oj hsj a oi.dst v h1] at h
  generalize (execOp a.eval oj).run P w = r at *
  cases r with
  | ok n w' =>
   cases n <;> simp only [Oper.upon] at h ⊢
   case value u => exact ⟨keep a hy u, by rw [← Act.put_comm a v u h2]; exact h⟩
   case skip => exact ⟨keep a hy _, by rw [← Act.put_comm a v undef h2]; exact h⟩
   case defer d =>
    refine ⟨keep _ (keepD d) _, ?_⟩;rw [← Act.put_comm _ v undef h2, ← Act.put_defers];exact h
   case enter f args =>
    refine Calls.mono h fun e w'' he => ?_
    cases e with
    | returned u => exact ⟨keep a hy u, by rw [← Act.put_comm a v u h2]; exact he⟩
    | panicked c => exact hO _ _ _ _ he
    | outgrown => exact absurd he hL
   case row row args => exact Rows.mono h fun u w'' he => ⟨keep a hy u, by rw [← Act.put_comm a v u h2]; exact he⟩
  | halt x w' => cases x <;> simp only [Oper.upon] at h ⊢; exact hO _ _ _ _ h
 ·rename_i hw
  simp only [hw] at h;exact ⟨keep a hy _, by rw [← Act.put_comm a v undef h2]; exact h⟩
theorem RU (hL : ¬ LetsOut O) (hQ : ∀ e a w, O e a w → Q e a w) {i : Nat} {K : Act → World → Prop} {a : Act} {w : World} (h : wpOp P ops O i K a w) : wpOp P ops Q i K a w := by
  unfold wpOp at *
  split
  · rename_i h0
    simp only [h0] at h
    exact h
  · rename_i o ho
    simp only [ho] at h
    split
    · rename_i hw
      rw [if_pos hw] at h
      rcases h with h | ⟨_, hl⟩
      case inr => exact absurd hl hL
      refine .inl ?_
      unfold Oper.wp at *
      generalize (execOp a.eval o).run P w = r at *
      cases r with
      | ok n w' =>
        cases n <;> simp only [Oper.upon] at h ⊢ <;> first
          | exact h
          | (refine Calls.mono h fun e w'' he => ?_
             cases e with
             | returned u => exact he
             | panicked c => exact hQ _ _ _ he
             | outgrown => exact absurd he hL)
      | halt x w' => cases x <;> simp only [Oper.upon] at h ⊢; exact hQ _ _ _ h
    · rename_i hw
      rw [if_neg hw] at h
      exact h
theorem Ud (hL : ¬ LetsOut O) (hO : ∀ (i : Nat) (o : Oper), ops[i]? = some o → ∀ e a v w, O e (a.put o.dst v) w → O e a w) {c : Nat} {oc : Oper} (hc : ops[c]? = some oc) (hrc : qX c = false) (hsel : ∀ (j : Nat) (o : Oper) cs b, ops[j]? = some o → o.op ≠ .select cs b)
  (yC : ∀ j k oj ok, j ≠ k → ops[j]? = some oj → ops[k]? = some ok → waits ops j k = false → waits ops k j = false → (qX j = true → oj.apart ops ok = true)) :
  ∀ (n : Nat) (rem : List Nat) (a : Act) (w : World), c ∈ rem → Ln ops rem c = true → xH P O ops S qX need R (n + 1) rem a w → wpOp P ops O c (fun a' w' => (need c = true → S w') ∧ xH P O ops S qX need R n (rem.erase c) a' w') a w := by
 intro n
 induction n with
 | zero =>
  intro rem a w hcm hrd h
  rcases h with ⟨i0, hi0, hr0, hd0, o0, ho0, u, hu, h⟩ | ⟨_, h⟩
  ·obtain ⟨hnil, hR⟩ := h;have e : i0 ≠ c := fun e => by subst e; rw [hrc] at hr0; cases hr0
   have : c ∈ rem.erase i0 := (List.mem_erase_of_ne (fun h => e h.symm)).2 hcm;rw [hnil] at this; cases this
  ·exact h c hcm hrc hrd
 | succ n ih =>
  intro rem a w hcm hrd h
  rcases h with ⟨i0, hi0, hr0, hd0, o0, ho0, u, hu, h⟩ | ⟨_, h⟩
  ·have e : i0 ≠ c := fun e => by subst e; rw [hrc] at hr0; cases hr0
   have hcm' : c ∈ rem.erase i0 := (List.mem_erase_of_ne (fun h => e h.symm)).2 hcm;have h2 := ih _ _ _ hcm' (BN hrd) h;have w1 := yH hrd hi0;have w2 := yH hd0 hcm;have ap := yC i0 c o0 oc e ho0 hc w2 w1 hr0;have h3 := NS hL hc ap (hO i0 o0 ho0) (fun cs b => hsel i0 o0 cs b ho0) (fun cs b => hsel c oc cs b hc) hu h2;refine wpOp_mono ?_ h3;rintro a' w' ⟨hy, hn, hk⟩;refine ⟨hn, .inl ⟨i0, (List.mem_erase_of_ne e).2 hi0, hr0, BN hd0, o0, ho0, u, hy, ?_⟩⟩;rw [List.erase_comm]; exact hk
  ·exact h c hcm hrc hrd
theorem Mq (hL : ¬ LetsOut O) (hO : ∀ (i : Nat) (o : Oper), ops[i]? = some o → ∀ e a v w, O e (a.put o.dst v) w → O e a w) (hQ : ∀ e a w, O e a w → Q e a w) (hok : NN ops qX need = true) : ∀ (fuel : Nat) (listed : Array Bool) (a : Act) (w : World), listed.size = ops.size → Closed ops listed → (k8 ops listed).length = fuel →
  (∀ r ∈ k8 ops listed, qX r = true → S w) → xH P O ops S qX need (Q .normal) fuel (k8 ops listed) a w → wpAny P .any ops Q fuel listed a w := by
 simp only [NN, Bool.and_eq_true] at hok;obtain ⟨⟨⟨MU, hback⟩, Pm⟩, MV⟩ := hok;have hsel := Region.noSelect_spec MU;have hp : ∀ i < ops.size, ∀ j < i, FO ops qX i j = true := fun i hi j hj => List.all_eq_true.1 (List.all_eq_true.1 Pm i (List.mem_range.2 hi)) j (List.mem_range.2 hj)
 have yC : ∀ j k oj ok, j ≠ k → ops[j]? = some oj → ops[k]? = some ok → waits ops j k = false → waits ops k j = false → (qX j = true → oj.apart ops ok = true) := by
  intro j k oj ok hjk hj hk w1 w2 hr;have hjl := (Array.getElem?_eq_some_iff.1 hj).1;have hkl := (Array.getElem?_eq_some_iff.1 hk).1
  rcases Nat.lt_or_gt_of_ne hjk with hlt | hlt
  ·have h := hp k hkl j hlt;unfold FO at h;simp only [hj, hk, w2, Bool.false_or, Bool.and_eq_true, Bool.or_eq_true, Bool.not_eq_true'] at h
   rcases h.2 with h0 | h0
   ·rw [hr] at h0; cases h0
   ·exact h0
  ·have h := hp j hjl k hlt;unfold FO at h;simp only [hj, hk, w1, Bool.false_or, Bool.and_eq_true, Bool.or_eq_true, Bool.not_eq_true'] at h
   rcases h.1 with h0 | h0
   ·rw [hr] at h0; cases h0
   ·exact h0
 have hbk : ∀ i o, ops[i]? = some o → ∀ e ∈ o.after, Region.binds .any e = true → e.on < i := fun i o ho e he hb => by
  have hi : i < ops.size := (Array.getElem?_eq_some_iff.1 ho).1;have h := List.all_eq_true.1 hback i (List.mem_range.2 hi);simp only [ho] at h;have h2 := Array.all_eq_true_iff_forall_mem.1 h e he
  simpa [hb] using h2
 have hnd : ∀ i < ops.size, qX i = false → ∀ r < ops.size, qX r = true → waits ops i r = false → need i = true := fun i hi DY r hr hrr hw => by
  have h := List.all_eq_true.1 MV i (List.mem_range.2 hi);simp only [DY, Bool.false_or, Bool.or_eq_true, Bool.not_eq_true'] at h;refine h.resolve_right fun h0 => ?_
  have : I0 ops qX i = true := by
   refine List.any_eq_true.2 ⟨r, List.mem_range.2 hr, ?_⟩;have : r ≠ i := fun e => by subst e; rw [DY] at hrr; cases hrr
   simp [hrr, hw, this]
  rw [this] at h0;cases h0
 intro fuel
 induction fuel with
 | zero =>
  intro listed a w hs hc hlen _ h;have hnil : k8 ops listed = [] := List.eq_nil_of_length_eq_zero hlen;obtain ⟨_, h⟩ := h;refine ⟨?_, h⟩;refine List.eq_nil_iff_forall_not_mem.2 fun i hi => ?_
  obtain ⟨h0, o, ho, _⟩ := mem_ready.1 hi;have : i ∈ k8 ops listed := nP.2 ⟨(Array.getElem?_eq_some_iff.1 ho).1, h0⟩;rw [hnil] at this;cases this
 | succ fuel ih =>
  intro listed a w hs hc hlen hS h;refine ⟨fun h0 => ?_, fun i hi => ?_⟩
  ·exfalso
   match hr : k8 ops listed, hlen with
   | i0 :: rest, _ =>
    have hm0 : i0 ∈ k8 ops listed := by rw [hr]; exact List.mem_cons_self ..
    obtain ⟨hlt, hun⟩ := nP.1 hm0;have CC := wC (ops := ops) listed;rw [hr, List.pairwise_cons] at CC
    have : i0 ∈ Region.ready .any ops listed := by
     refine mem_ready.2 ⟨hun, ops[i0], Array.getElem?_eq_getElem hlt, fun e he hb => ?_⟩;have hlt2 := hbk i0 _ (Array.getElem?_eq_getElem hlt) e he hb;cases hl : listed.getD e.on false with
     | true => rfl
     | false =>
      have hm : e.on ∈ k8 ops listed := nP.2 ⟨by omega, by rw [BJ (by omega)]; exact hl⟩;rw [hr] at hm
      rcases List.mem_cons.1 hm with hm | hm
      ·omega
      ·have := CC.1 _ hm; omega
    rw [h0] at this;cases this
  ·obtain ⟨hun, oi, hoi, hall⟩ := mem_ready.1 hi;have hilt : i < ops.size := (Array.getElem?_eq_some_iff.1 hoi).1;have him : i ∈ k8 ops listed := nP.2 ⟨hilt, hun⟩;have Po : (k8 ops listed).Nodup := (wC (ops := ops) listed).imp fun h => Nat.ne_of_lt h
   have CD : k8 ops (listed.setIfInBounds i true) = (k8 ops listed).erase i := by rw [GS hs hilt, D2 Po]
   have hlen' : (k8 ops (listed.setIfInBounds i true)).length = fuel := by
    rw [CD, List.length_erase_of_mem him]; omega
   have hs' : (listed.setIfInBounds i true).size = ops.size := by simpa using hs
   have hc' : Closed ops (listed.setIfInBounds i true) := by
    intro k hk j hj
    by_cases hik : i = k
    ·subst hik; exact getD_set_true (u9 hi hj)
    ·rw [getD_set_ne false hik] at hk; exact getD_set_true (hc k hk j hj)
   have hrd : Ln ops (k8 ops listed) i = true := by
    unfold Ln;rw [List.all_eq_true];intro j hj;obtain ⟨h1, h2⟩ := nP.1 hj;cases hw : waits ops i j with
    | false => rfl
    | true =>
     have := u9 hi hw;rw [← BJ (by omega), h2] at this; cases this
   cases DY : qX i with
   | true =>
    have hSw : S w := hS i him DY;obtain ⟨v, hv, hrest⟩ := Qu hoi DY hsel yC fuel _ a w him hrd h;refine hv.run hoi hSw (ih _ _ _ hs' hc' hlen' (fun _ _ _ => hSw) (by rw [CD]; exact hrest))
   | false =>
    have h2 := Ud hL hO hoi DY hsel yC fuel _ a w him hrd h;refine RU hL hQ (wpOp_mono ?_ h2);rintro a' w' ⟨hn, hk⟩;refine ih _ _ _ hs' hc' hlen' ?_ (by rw [CD]; exact hk);intro r hr hrr;rw [CD] at hr;have hrm := List.mem_of_mem_erase hr;exact hn (hnd i hilt DY r (nP.1 hrm).1 hrr (yH hrd hrm))
theorem Mr (hL : ¬ LetsOut O) (hQ : ∀ e a w, O e a w → Q e a w) {id : Nat} {a : Act} {w : World} {l : List Oper} (hO : ∀ (i : Nat) (o : Oper), l.toArray[i]? = some o → ∀ e a v w, O e (a.put o.dst v) w → O e a w) (S : World → Prop) (f : List Nat) (n : Nat) (rem : List Nat) (hm : P.follows .mixedOrders = true) (hok : NN l.toArray (o9 f) (kL f) = true)
  (hl : List.range l.toArray.size = rem) (hn : rem.length = n) (hS : S w.drew) (h : xH P O l.toArray S (o9 f) (kL f) (Q .normal) n rem a w.drew) : (Code.region id l.toArray true).wp P Q a w := by
 refine wp_region_any hm ?_
 have Ie : k8 l.toArray (Array.replicate l.toArray.size false) = List.range l.toArray.size := by
  unfold k8;refine List.filter_eq_self.2 fun i hi => ?_
  have := List.mem_range.1 hi
  simp at this
  simp [this]
 refine Mq hL hO hQ hok l.toArray.size (Array.replicate l.toArray.size false) a _ (by simp) ?_ (by rw [Ie]; simp) (fun _ _ _ => hS) ?_
 ·intro i hi;rw [Ae] at hi;cases hi
 ·rw [Ie, hl];have : l.toArray.size = n := by rw [← hn, ← hl]; simp
  rw [this]; exact h
def Bk (D : List Deferred) (N : Nat) (l0 : List (Nat × Value)) (Pn : List PanicEntry → World → Prop) : Exit → Act → World → Prop := fun e a w => ∃ ch, e = .panic ch ∧ Pn ch w ∧ Kd D a N l0
def Qw (ops : List Oper) (l0 : List (Nat × Value)) : Bool := ops.all fun o => match o.dst with
 | some d => (yR l0 d).isNone
 | none => true
theorem Kd.aBS {D : List Deferred} {a : Act} {N : Nat} {l0 : List (Nat × Value)} {d : Option Nat} {v : Value} (h : ∀ s, d = some s → yR l0 s = none) (K : Kd D (a.put d v) N l0) : Kd D a N l0 := by
 cases d with
 | none => exact K
 | some d =>
  refine ⟨K.defs, by have := K.size; simpa [Act.put] using this, fun s u hs => ?_⟩;have h2 := K.get s u hs;have hne : d ≠ s := fun e => by subst e; rw [h d rfl] at hs; cases hs
  simp only [Act.put] at h2;rw [← h2]
  simp [Array.getD_eq_getD_getElem?, Array.getElem?_setIfInBounds, hne]
theorem nN {id : Nat} {a : Act} {w : World} {l : List Oper} {D : List Deferred} {N : Nat} (l0 : List (Nat × Value)) (Pn : List PanicEntry → World → Prop) (hcl : Qw l l0 = true) (hQ : ∀ ch a w, Pn ch w → Kd D a N l0 → Q (.panic ch) a w) (S : World → Prop) (f : List Nat) (n : Nat) (rem : List Nat) (hm : P.follows .mixedOrders = true) (hok : NN l.toArray (o9 f) (kL f) = true)
  (hl : List.range l.toArray.size = rem) (hn : rem.length = n) (hS : S w.drew) (h : xH P (Bk D N l0 Pn) l.toArray S (o9 f) (kL f) (Q .normal) n rem a w.drew) : (Code.region id l.toArray true).wp P Q a w :=
 Mr (O := Bk D N l0 Pn) (fun ⟨_, _, _, h, _⟩ => by cases h) (fun e a w ⟨ch, h1, h2, h3⟩ => by subst h1; exact hQ ch a w h2 h3)
  (fun i o ho e a v w ⟨ch, h1, h2, h3⟩ => ⟨ch, h1, h2, Kd.aBS (fun s hs => by
   unfold Qw at hcl;rw [List.all_eq_true] at hcl;have hm := hcl o (by simpa using Array.mem_of_getElem? ho);rw [hs] at hm
   simpa using hm) h3⟩) S f n rem hm hok hl hn hS h
variable {D : List Deferred} {a : Act} {w : World} {N : Nat} {l l0 : List (Nat × Value)} {o : Oper} {v : Value} {d c n : Nat} {rem : List Nat} {f : List Nat} {Pn : List PanicEntry → World → Prop} {x : Operand}
theorem Im {kk : Act → World → Prop} (ho : ops[c]? = some o) (K0 : Kd D a N l0) (hw : Region.wanted o (yielded ops a.tmps) = true) (h : Bo P o a w Pn) : wpOp P ops (Bk D N l0 Pn) c kk a w := by
 unfold wpOp;simp only [ho, hw, if_true];exact .inl (h _ _ fun ch w' hp => ⟨ch, rfl, hp, K0⟩)
theorem Ue {fid : FuncId} {cap vs : List Value} {args : Array Operand} {ts : Array TypeId} (K : Kd D a N l) (ho : o.op = .call { callee := .value x, args := args, argTypes := ts }) (hf : lZ P fid = true) (hx : kQ l x = some (.func (.func fid) #[] cap.toArray)) (hargs : args.toList.map (kQ l) = vs.map some)
  {K2 : Act → World → Prop} {Q2 : Exit → Act → World → Prop} (h : Calls P fid (vs ++ cap).toArray w fun e w' => (∃ v, e = .returned v ∧ K2 (a.put o.dst v) w') ∨ ∃ ch, e = .panicked ch ∧ Q2 (.panic ch) a w') : o.wp P a w K2 Q2 := by
 have hE : args.map a.eval = vs.toArray := by
  apply Array.ext'
  simp only [Array.toList_map]
  have : ∀ (xs : List Operand) (vs : List Value), xs.map (kQ l) = vs.map some → xs.map a.eval = vs := by
   intro xs
   induction xs with
   | nil => intro vs h; cases vs <;> simp_all
   | cons x xs ih =>
    intro vs h;cases vs with
    | nil => simp at h
    | cons v vs => simp only [List.map_cons, List.cons.injEq] at h ⊢; exact ⟨K.ev h.1, ih vs h.2⟩
  exact this _ _ hargs
 have hrun : (execOp a.eval o).run P w = .ok (.enter fid (vs ++ cap).toArray) w := by
  unfold lZ at hf
  split at hf
  ·rename_i fn hfn
   simp only [Bool.and_eq_true, bne_iff_ne, ne_eq] at hf;obtain ⟨b, hb⟩ := Option.isSome_iff_exists.1 hf.1;unfold execOp
   simp [ho, resolve, K.ev hx, hE, Deferred.ofValue, invoke, callFunc, hfn, hb, hf.2]
  ·cases hf
 unfold Oper.wp;rw [hrun, Oper.upon_enter];refine h.mono ?_;rintro e w' (⟨v, rfl, hp⟩ | ⟨ch, rfl, hp⟩)
 ·exact hp
 ·exact hp
theorem EJ {rest : List Oper} {fid : FuncId} {cap vs : List Value} {args : Array Operand} {ts : Array TypeId} (K : Kd D a N l) (hw : Region.wanted o (yielded ops a.tmps) = true) (hd : o.dst = some d) (hN : Nat.blt d N = true)
  (ho : o.op = .call { callee := .value x, args := args, argTypes := ts }) (hf : lZ P fid = true) (hx : kQ l x = some (.func (.func fid) #[] cap.toArray)) (hargs : args.toList.map (kQ l) = vs.map some)
  (h : Calls P fid (vs ++ cap).toArray w fun e w' => (∃ v, e = .returned v ∧ ∀ a', Kd D a' N ((d, v) :: l) → wpList P ops Q rest a' w') ∨ ∃ ch, e = .panicked ch ∧ Q (.panic ch) a w') : wpList P ops Q (o :: rest) a w := by
 refine wpList_step fun Kc hK => ?_
 rw [if_pos hw];refine Ue K ho hf hx hargs (h.mono ?_);rintro e w' (⟨v, he, hp⟩ | hp)
 ·refine .inl ⟨v, he, hK _ _ ?_⟩;have := K.put (d := o.dst) (by rw [hd]; exact hN) v;rw [hd] at this ⊢;exact hp _ this
 ·exact .inr hp
theorem Ms {fid : FuncId} {cap vs : List Value} {args : Array Operand} {ts : Array TypeId} (Cy : List Nat) (hc : (rem.erase c == Cy) = true) (hop : ops[c]? = some o) (K : Kd D a N l) (hw : Region.wanted o (yielded ops a.tmps) = true) (hd : o.dst = some d) (hN : Nat.blt d N = true) (K0 : Kd D a N l0)
  (ho : o.op = .call { callee := .value x, args := args, argTypes := ts }) (hf : lZ P fid = true) (hx : kQ l x = some (.func (.func fid) #[] cap.toArray)) (hargs : args.toList.map (kQ l) = vs.map some)
  (h : Calls P fid (vs ++ cap).toArray w fun e w' => (∃ v, e = .returned v ∧ ∀ a', Kd D a' N ((d, v) :: l) → (kL f c = true → S w') ∧ xH P (Bk D N l0 Pn) ops S (o9 f) (kL f) R n Cy a' w') ∨ ∃ ch, e = .panicked ch ∧ Pn ch w') : wpOp P ops (Bk D N l0 Pn) c (fun a' w' => (kL f c = true → S w') ∧ xH P (Bk D N l0 Pn) ops S (o9 f) (kL f) R n (rem.erase c) a' w') a w := by
 obtain rfl : rem.erase c = Cy := by simpa using hc
 unfold wpOp;simp only [hop, hw, if_true];refine .inl (Ue K ho hf hx hargs (h.mono ?_));rintro e w' (⟨v, he, hp⟩ | ⟨ch, he, hp⟩)
 ·refine .inl ⟨v, he, ?_⟩;have := K.put (d := o.dst) (by rw [hd]; exact hN) v;rw [hd] at this ⊢;exact hp _ this
 ·exact .inr ⟨ch, he, ch, rfl, hp, K0⟩
theorem Uf {fn : Func} {code : Code} {fid : FuncId} {args : Array Value} {Rp : Ending → World → Prop} (hf : P.funcs[fid]? = some fn) (hb : fn.body = some code) (hN : fn.ntmps = N) (hs : Nat.ble args.size N = true)
  (h : ∀ a, Kn a N (Hv 0 args.toList) → code.wp P (bodyPostD P fn Rp) a w) : Calls P fid args w Rp := by
 refine calls_of_wp_defers hf hb ?_;rw [hN];exact h _ (Kd.start args N hs)
theorem aEq {rest : List Oper} {fid : FuncId} {cap : List Value} (K : Kd D a N l) (hw : Region.wanted o (yielded ops a.tmps) = true) (hd : o.dst = none) (ho : o.op = .defer { callee := .value x, args := #[], argTypes := #[] }) (hx : kQ l x = some (.func (.func fid) #[] cap.toArray))
  (k : ∀ a', Kd ({ target := .fn (.func fid) cap.toArray, args := #[] } :: D) a' N l → wpList P ops Q rest a' w) : wpList P ops Q (o :: rest) a w := by
 refine wpList_step fun Kc hK => ?_
 rw [if_pos hw];unfold Oper.wp
 have hrun : (execOp a.eval o).run P w = .ok (.defer { target := .fn (.func fid) cap.toArray, args := #[] }) w := by
  unfold execOp
  simp [ho, resolve, K.ev hx, Deferred.ofValue]
 rw [hrun, Oper.upon_defer];refine hK _ _ ?_;rw [hd];exact k _ ⟨by show _ :: a.defers = _; rw [K.defs], K.size, K.get⟩
theorem aBT {fn : Func} {Rp : Ending → World → Prop} {r1 r2 : ResultVar} {v1 v2 : Value} {fid : FuncId} {cap : Array Value} (K : Kd [{ target := .fn (.func fid) cap, args := #[] }] a N l) (hr : fn.results = #[r1, r2]) (h1 : z6 P a w r1 v1) (h2 : z6 P a w r2 v2)
  (hi : (invoke (.fn (.func fid) cap) #[]).run P w = .ok (.enter fid cap) w) (hc : CallsD P fid cap .returning w fun e u' w' => e = .returned (.tuple #[]) ∧ u' = .returning ∧ w' = w) (h : Rp (.returned (.tuple #[v1, v2])) w) : bodyPostD P fn Rp .ret a w := by
 show Leaves P fn a.tmps Rp a.defers .returning w;rw [K.defs];refine leaves_cons (by intro h; cases h) hi (hc.mono ?_);rintro e u' w' ⟨rfl, rfl, rfl⟩;refine ⟨.tuple #[v1, v2], ?_, h⟩;unfold z6 at h1 h2;rw [yD, hr]; simp [h1, h2]
theorem oI {fn : Func} {Rp : Ending → World → Prop} {r1 r2 : ResultVar} {v1 v2 : Value} {fid : FuncId} {cap : Array Value} {pe : PanicEntry} {post : World → Prop} (K : Kd [{ target := .fn (.func fid) cap, args := #[] }] a N l) (hr : fn.results = #[r1, r2])
  (hi : (invoke (.fn (.func fid) cap) #[]).run P w = .ok (.enter fid cap) w) (hc : CallsD P fid cap (.panicking [pe]) w fun e u' w' => e = .returned (.tuple #[]) ∧ u' = .panicking [{ pe with recovered := true }] ∧ post w') (hres : ∀ w', post w' → z6 P a w' r1 v1 ∧ z6 P a w' r2 v2 ∧ Rp (.returned (.tuple #[v1, v2])) w') : bodyPostD P fn Rp (.panic [pe]) a w := by
 show Leaves P fn a.tmps Rp a.defers (.panicking [pe]) w;rw [K.defs];refine leaves_cons (by intro h; cases h) hi (hc.mono ?_);rintro e u' w' ⟨rfl, rfl, hp⟩;obtain ⟨h1, h2, h⟩ := hres w' hp;refine ⟨.tuple #[v1, v2], ?_, h⟩;unfold z6 at h1 h2;rw [yD, hr]; simp [h1, h2]
end
theorem hF {P : Program} {f : FuncId} {cap : Array Value} {w : World} (hf : lZ P f = true) : (invoke (.fn (.func f) cap) #[]).run P w = .ok (.enter f cap) w := by
 unfold lZ at hf
 split at hf
 ·rename_i fn hfn
  simp only [Bool.and_eq_true, bne_iff_ne, ne_eq] at hf;obtain ⟨b, hb⟩ := Option.isSome_iff_exists.1 hf.1
  simp [invoke, callFunc, hfn, hb, hf.2]
 ·cases hf
theorem sU {P : Program} {S : World → Prop} {D : List Deferred} {a : Act} {N : Nat} {l : List (Nat × Value)} {o : Oper} {x ix : Operand} {t e : TypeId} {g off c : Nat} {k : IntKind} {b s j len : Nat} (ho : o.op = .indexAddr t x ix) (ht : Kg P t e s b = true) (K : Kd D a N l) (hx : kQ l x = some (.slice (some ⟨g, off, none⟩) len c)) (hi : kQ l ix = some (.int k j)) (hj : Nat.blt j len = true) : Rd P S a o (.pointer (some ⟨g, off + j * s, none⟩)) := fun w _ => by
  obtain ⟨hu, i, t8, hs, _⟩ := oS ht
  have h1 : (j : Int) < len := by have : j < len := by simpa [Nat.blt_eq] using hj
                                  omega
  have hadd : (⟨g, off, none⟩ : Addr).add (j * s) = ⟨g, off + j * s, none⟩ := by unfold Addr.add; split <;> simp_all
  unfold execOp
  simp [ho, K.ev hx, K.ev hi, Instr.indexAt, asIntOf, run_underlying hu, sizeOf, typeInfo, t8, hs, h1, hadd]
  intro hh; omega
end
end Go.Proofs.YtpmnfhifmmfglacGreatDoor
