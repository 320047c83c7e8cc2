/- Sharpening: what the code makes of a picture is what the document says; a picture of one colour stays. -/
import Derived.Test.YtpmnfhifmmfglabPEachS
import Derived.Test.YtpmnfhifmmfglabPDown
import Derived.Test.YtpmnfhifmmfglabPToneB
set_option linter.unusedVariables false
set_option linter.unusedSimpArgs false
set_option linter.unusedSectionVars false
namespace Go.Proofs.Ytpmnfhifmmfglab
open Go

def cl (y : Nat) (dy : Int) (H : Nat) : Nat := (min (max ((y : Int) + dy) 0) ((H : Int) - 1)).toNat
theorem cl_lt {y H : Nat} {dy : Int} (h : 1 ≤ H) : cl y dy H < H := by unfold cl; omega
theorem cl_code {y H : Nat} {dy : Int} (h : 1 ≤ H) : min (max ((y : Int) + dy) 0) ((H : Int) - 1) = ((cl y dy H : Nat) : Int) := by unfold cl; omega
theorem cl_doc {y H : Nat} {dy : Int} (h : 1 ≤ H) : max 0 (min ((H : Int) - 1) ((y : Int) + dy)) = ((cl y dy H : Nat) : Int) := by unfold cl; omega
def nb (P : List Px) (W H x y : Nat) (dy dx : Int) : Px := P.getD (cl y dy H * W + cl x dx W) px0
def wt (dx dy : Int) : Int := (2 - dx * dx) * (2 - dy * dy)
def sadd (w : Int) (n a : Px) : Px := (a.1 + w * n.1, a.2.1 + w * n.2.1, a.2.2 + w * n.2.2)
def bd3 (a : Px) (m : Int) : Prop := (0 ≤ a.1 ∧ a.1 ≤ m) ∧ (0 ≤ a.2.1 ∧ a.2.1 ≤ m) ∧ (0 ≤ a.2.2 ∧ a.2.2 ≤ m)
theorem sq_in {d : Int} (h : -1 ≤ d ∧ d ≤ 1) : 0 ≤ d * d ∧ d * d ≤ 1 := by
  have : d = -1 ∨ d = 0 ∨ d = 1 := by omega
  rcases this with rfl | rfl | rfl <;> decide
theorem wt_in {dx dy : Int} (hx : -1 ≤ dx ∧ dx ≤ 1) (hy : -1 ≤ dy ∧ dy ≤ 1) : 1 ≤ wt dx dy ∧ wt dx dy ≤ 4 := by
  have h1 : dx = -1 ∨ dx = 0 ∨ dx = 1 := by omega
  have h2 : dy = -1 ∨ dy = 0 ∨ dy = 1 := by omega
  rcases h1 with rfl | rfl | rfl <;> rcases h2 with rfl | rfl | rfl <;> decide
theorem okPx_bd {p : Px} (h : okPx p = true) : bd3 p 65535 := by
  simp only [okPx, decide_eq_true_eq] at h
  unfold bd3; omega
theorem wmul {w n : Int} (hw : 1 ≤ w ∧ w ≤ 4) (hn : 0 ≤ n ∧ n ≤ 65535) : 0 ≤ w * n ∧ w * n ≤ 262140 := by
  have h1 := Int.mul_nonneg (show 0 ≤ w by omega) hn.1
  have h2 := mul_in (a := 4) (b := 65535) (x := w) (y := n) (by omega) (by omega)
  omega
theorem sadd_bd {w m : Int} {n a : Px} (hw : 1 ≤ w ∧ w ≤ 4) (hn : bd3 n 65535) (ha : bd3 a m) : bd3 (sadd w n a) (m + 262140) := by
  obtain ⟨n1, n2, n3⟩ := hn
  obtain ⟨a1, a2, a3⟩ := ha
  have h1 := wmul hw n1
  have h2 := wmul hw n2
  have h3 := wmul hw n3
  unfold bd3 sadd
  dsimp only
  omega
def rowS (P : List Px) (W H x y : Nat) (dy : Int) (a : Px) : Px := sadd (wt 1 dy) (nb P W H x y dy 1) (sadd (wt 0 dy) (nb P W H x y dy 0) (sadd (wt (-1) dy) (nb P W H x y dy (-1)) a))
def sumS (P : List Px) (W H x y : Nat) : Px := rowS P W H x y 1 (rowS P W H x y 0 (rowS P W H x y (-1) (0, 0, 0)))
def sh1 (amount v blur : Int) : Int := max 0 (min (IntKind.i64.wrap (v + shrI .i64 (IntKind.i64.wrap (IntKind.i64.wrap (v - shrI .i64 blur 4) * amount)) 8)) 65535)
def shP (amount : Int) (p s : Px) : Px := (sh1 amount p.1 s.1, sh1 amount p.2.1 s.2.1, sh1 amount p.2.2 s.2.2)
section
variable {W H : Nat} {P : List Px} (hp : picF W H P = true)
include hp
theorem pic_nat : 1 ≤ W ∧ W ≤ 64 ∧ 1 ≤ H ∧ H ≤ 64 ∧ P.length = W * H ∧ W * H ≤ 4096 := side_nat W H P (picF_side hp)
theorem pic_at {i : Nat} (h : i < W * H) : idx P (i : Int) = some (P.getD i px0) ∧ okPx (P.getD i px0) = true := by
  have hl := (pic_nat hp).2.2.2.2.1
  have hx : P[i]? = some P[i] := List.getElem?_eq_getElem (by omega)
  have hg : P.getD i px0 = P[i] := by rw [List.getD_eq_getElem?_getD, hx]; rfl
  rw [idx_nat, hg, hx]
  exact ⟨rfl, okPx_of hp hx⟩
theorem nb_at {x y : Nat} (dy dx : Int) : idx P (((cl y dy H * W + cl x dx W : Nat) : Nat) : Int) = some (nb P W H x y dy dx) ∧ okPx (nb P W H x y dy dx) = true := by
  obtain ⟨h1, h2, h3, h4, h5, h6⟩ := pic_nat hp
  exact pic_at hp (place_lt (cl_lt h1) (cl_lt h3))
theorem rowS_bd {x y : Nat} {dy m : Int} (hy : -1 ≤ dy ∧ dy ≤ 1) {a : Px} (ha : bd3 a m) : bd3 (rowS P W H x y dy a) (m + 786420) := by
  have h1 := sadd_bd (wt_in (dx := -1) (by omega) hy) (okPx_bd (nb_at (x := x) (y := y) hp dy (-1)).2) ha
  have h2 := sadd_bd (wt_in (dx := 0) (by omega) hy) (okPx_bd (nb_at (x := x) (y := y) hp dy 0).2) h1
  have h3 := sadd_bd (wt_in (dx := 1) (by omega) hy) (okPx_bd (nb_at (x := x) (y := y) hp dy 1).2) h2
  unfold rowS
  unfold bd3 at h3 ⊢
  omega
theorem sumS_bd {x y : Nat} : bd3 (sumS P W H x y) 2359260 := by
  have h0 : bd3 ((0, 0, 0) : Px) 0 := by unfold bd3; simp
  have h1 := rowS_bd (x := x) (y := y) hp (dy := -1) (by omega) h0
  have h2 := rowS_bd (x := x) (y := y) hp (dy := 0) (by omega) h1
  have h3 := rowS_bd (x := x) (y := y) hp (dy := 1) (by omega) h2
  exact h3
theorem code_step (N fuel : Nat) {x y : Nat} (hx : x < W) (hy : y < H) {dx dy : Int} (hdx : -1 ≤ dx ∧ dx ≤ 1) (hdy : -1 ≤ dy ∧ dy ≤ 1) (kk) {a : Px} (ha : bd3 a 100000000) {dx' : Int} (hd' : dx' = dx + 1) :
    D_tone_Sharpen_2_l2 N x y W H P dy kk (fuel + 1) (a.1, a.2.1, a.2.2, dx) = D_tone_Sharpen_2_l2 N x y W H P dy kk fuel ((sadd (wt dx dy) (nb P W H x y dy dx) a).1, (sadd (wt dx dy) (nb P W H x y dy dx) a).2.1, (sadd (wt dx dy) (nb P W H x y dy dx) a).2.2, dx') := by
  subst hd'
  obtain ⟨h1, h2, h3, h4, h5, h6⟩ := pic_nat hp
  obtain ⟨n1, n2⟩ := nb_at (x := x) (y := y) hp dy dx
  obtain ⟨b1, b2, b3⟩ := okPx_bd n2
  obtain ⟨a1, a2, a3⟩ := ha
  have hw := wt_in hdx hdy
  have m1 := wmul hw b1
  have m2 := wmul hw b2
  have m3 := wmul hw b3
  have q1 := sq_in hdx
  have q2 := sq_in hdy
  have c1 := cl_lt (y := y) (dy := dy) h3
  have c2 := cl_lt (y := x) (dy := dx) h1
  have c3 := place_lt c2 c1
  have hwt : IntKind.i64.wrap ((2 - dx * dx) * (2 - dy * dy)) = wt dx dy := w64 (by unfold wt at hw; omega)
  conv => lhs; unfold D_tone_Sharpen_2_l2
  rw [cT (dT hdx.2), w64 (x := (y : Int) + dy) (by omega), w64 (x := (H : Int) - 1) (by omega), w64 (x := (x : Int) + dx) (by omega), w64 (x := (W : Int) - 1) (by omega), cl_code h3, cl_code h1]
  rw [w64 (x := ((cl y dy H : Nat) : Int) * (W : Int)) (by rw [← Int.natCast_mul]; omega), ← Int.natCast_mul, ← Int.natCast_add, w64 (x := ((cl y dy H * W + cl x dx W : Nat) : Int)) (by omega), bsome, n1, bsome]
  rw [w64 (x := dx * dx) (by omega), w64 (x := dy * dy) (by omega), w64 (x := 2 - dx * dx) (by omega), w64 (x := 2 - dy * dy) (by omega), hwt, bsome, w64 (x := dx + 1) (by omega), bsome]
  rw [w64 (x := wt dx dy * (nb P W H x y dy dx).1) (by omega), w64 (x := wt dx dy * (nb P W H x y dy dx).2.1) (by omega), w64 (x := wt dx dy * (nb P W H x y dy dx).2.2) (by omega), w64 (x := a.1 + _) (by omega), w64 (x := a.2.1 + _) (by omega), w64 (x := a.2.2 + _) (by omega)]
  rfl
theorem code_row (N fuel : Nat) {x y : Nat} (hx : x < W) (hy : y < H) {dy : Int} (hdy : -1 ≤ dy ∧ dy ≤ 1) (kk) {a : Px} (ha : bd3 a 50000000) :
    D_tone_Sharpen_2_l2 N x y W H P dy kk (fuel + 4) (a.1, a.2.1, a.2.2, -1) = kk ((rowS P W H x y dy a).1, (rowS P W H x y dy a).2.1, (rowS P W H x y dy a).2.2, 2) := by
  have b0 : bd3 a 100000000 := by unfold bd3 at ha ⊢; omega
  have b1 := sadd_bd (wt_in (dx := -1) (by omega) hdy) (okPx_bd (nb_at (x := x) (y := y) hp dy (-1)).2) ha
  have b2 := sadd_bd (wt_in (dx := 0) (by omega) hdy) (okPx_bd (nb_at (x := x) (y := y) hp dy 0).2) b1
  have up : ∀ {c : Px} {m : Int}, bd3 c m → m ≤ 100000000 → bd3 c 100000000 := fun h hm => by unfold bd3 at h ⊢; omega
  rw [code_step hp N (fuel + 3) hx hy (by omega) hdy kk b0 (dx' := 0) (by omega), code_step hp N (fuel + 2) hx hy (dx := 0) (by omega) hdy kk (up b1 (by omega)) (dx' := 1) (by omega), code_step hp N (fuel + 1) hx hy (dx := 1) (by omega) hdy kk (up b2 (by omega)) (dx' := 2) (by omega)]
  unfold D_tone_Sharpen_2_l2
  rw [cF (dF (by omega))]
  rfl
theorem code_sum (N : Nat) {x y : Nat} (hx : x < W) (hy : y < H) (kk) :
    D_tone_Sharpen_2_l1 5000 x y W H P kk 5000 (0, 0, 0, -1) = kk ((sumS P W H x y).1, (sumS P W H x y).2.1, (sumS P W H x y).2.2, 2) := by
  have h0 : bd3 ((0, 0, 0) : Px) 0 := by unfold bd3; simp
  have h1 := rowS_bd (x := x) (y := y) hp (dy := -1) (by omega) h0
  have h2 := rowS_bd (x := x) (y := y) hp (dy := 0) (by omega) h1
  have up : ∀ {a : Px} {m : Int}, bd3 a m → m ≤ 50000000 → bd3 a 50000000 := fun h hm => by unfold bd3 at h ⊢; omega
  have one : ∀ (fuel : Nat) (dy dy' : Int), (-1 ≤ dy ∧ dy ≤ 1) → dy' = dy + 1 → ∀ (a : Px), bd3 a 50000000 → D_tone_Sharpen_2_l1 5000 x y W H P kk (fuel + 1) (a.1, a.2.1, a.2.2, dy) = D_tone_Sharpen_2_l1 5000 x y W H P kk fuel ((rowS P W H x y dy a).1, (rowS P W H x y dy a).2.1, (rowS P W H x y dy a).2.2, dy') := by
    intro fuel dy dy' hd hd' a ha
    subst hd'
    conv => lhs; unfold D_tone_Sharpen_2_l1
    rw [cT (dT hd.2)]
    refine (code_row hp 5000 4996 hx hy hd _ ha).trans ?_
    dsimp only
    rw [w64 (x := dy + 1) (by omega), bsome]
  refine (one 4999 (-1) 0 (by omega) (by omega) (0, 0, 0) (up h0 (by omega))).trans ?_
  refine (one 4998 0 1 (by omega) (by omega) _ (up h1 (by omega))).trans ?_
  refine (one 4997 1 2 (by omega) (by omega) _ (up h2 (by omega))).trans ?_
  unfold D_tone_Sharpen_2_l1
  dsimp only
  rw [cF (dF (by omega))]
  rfl
theorem code_px (amount : Int) {x y : Nat} (hx : x < W) (hy : y < H) (p : Px) : D_tone_Sharpen_2 5000 p.1 p.2.1 p.2.2 x y W H P amount = some (shP amount p (sumS P W H x y)) := by
  unfold D_tone_Sharpen_2
  refine (code_sum hp 5000 hx hy _).trans ?_
  rfl
/-- What the code gives. -/
def shF (amount : Int) (W H : Nat) (P : List Px) (x y : Nat) : Px := shP amount (pxOf P W x y) (sumS P W H x y)
omit hp in
theorem sharpen_eq (W H : Int) (P : List Px) (amount : Int) : D_tone_Sharpen 5000 W H P amount = some (if picF W H P = false then (0, 0, [], 1) else if 0 ≤ amount ∧ amount ≤ 1024 then (W, H, mkL W.toNat H.toNat (shF amount W.toNat H.toNat P), 0) else (0, 0, [], 3)) := by
  unfold D_tone_Sharpen
  cases hp : picF W H P
  · rw [eachS_no 5000 (by omega) W H P amount hp]; rfl
  · have hs := picF_side hp
    obtain ⟨W, rfl⟩ : ∃ n : Nat, W = n := ⟨W.toNat, by have := hs.1; omega⟩
    obtain ⟨H, rfl⟩ : ∃ n : Nat, H = n := ⟨H.toNat, by have := hs.2.2.1; omega⟩
    obtain ⟨h1, h2, h3, h4, h5, h6⟩ := pic_nat hp
    rw [eachS_eq 5000 (by omega) W H P amount hp (fun i => shF amount W H P (i % W) (i / W)) (fun i p hi => by
      have hlt := (List.getElem?_eq_some_iff.1 hi).1
      rw [h5] at hlt
      obtain ⟨l1, l2, _⟩ := lt_of_place hlt
      rw [code_px hp amount l1 l2 p]
      show _ = some (shP amount (P.getD (i / W * W + i % W) px0) _)
      rw [Nat.div_add_mod', List.getD_eq_getElem?_getD, hi]; rfl)]
    rw [bsome]
    dsimp only
    rw [cT (by rfl), if_neg (by simp), h5, Int.toNat_natCast, Int.toNat_natCast]
    by_cases a1 : amount < 0
    · rw [cT (dT a1), if_neg (by omega)]
    rw [cF (dF a1)]
    by_cases a2 : 1024 < amount
    · rw [cT (dT a2), if_neg (by omega)]
    rw [cF (dF a2), if_pos (by omega)]
    rfl
end
end Go.Proofs.Ytpmnfhifmmfglab
