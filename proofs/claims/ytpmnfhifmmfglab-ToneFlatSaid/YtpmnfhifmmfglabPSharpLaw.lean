/- The laws ToneSharpens and ToneFlat hold of the plain programs. -/
import Derived.Test.YtpmnfhifmmfglabPSharp
set_option linter.unusedVariables false
set_option linter.unusedSimpArgs false
set_option linter.unusedSectionVars false
namespace Go.Proofs.Ytpmnfhifmmfglab
open Go

theorem sh1_doc (N : Nat) {amount v blur : Int} (ha : 0 ≤ amount ∧ amount ≤ 1024) (hv : 0 ≤ v ∧ v ≤ 65535) (hb : 0 ≤ blur ∧ blur ≤ 2359260) :
    (Option.bind (D_darkslideref_down N (IntKind.i64.wrap (IntKind.i64.wrap (v - IntKind.i64.wrap (Int.tdiv blur 16)) * amount)) 256) fun r => D_darkslideref_clamp N (IntKind.i64.wrap (v + r))) = some (sh1 amount v blur) := by
  have h16 : Int.tdiv blur 16 = blur / 16 := Int.tdiv_eq_ediv_of_nonneg hb.1
  unfold sh1
  rw [h16, shr4, w64 (x := blur / 16) (by omega), w64 (x := v - blur / 16) (by omega)]
  have hm := mul_in (a := 2359260) (b := 1024) (x := v - blur / 16) (y := amount) (by omega) (by omega)
  rw [w64 (x := (v - blur / 16) * amount) (by omega), down_eq N (by omega) (by omega), bsome, shr8]
  rfl
theorem doc_l6 (N fuel : Nat) (o : Int) (r s : Px) (kk) : D_darkslideref_Sharp_l6 N o r s.1 s.2.1 s.2.2 kk (fuel + 4) (0, 0, 0, 0) =
    Option.bind (D_darkslideref_down N (IntKind.i64.wrap (IntKind.i64.wrap (r.1 - IntKind.i64.wrap (Int.tdiv s.1 16)) * o)) 256) fun a =>
    Option.bind (D_darkslideref_clamp N (IntKind.i64.wrap (r.1 + a))) fun a' =>
    Option.bind (D_darkslideref_down N (IntKind.i64.wrap (IntKind.i64.wrap (r.2.1 - IntKind.i64.wrap (Int.tdiv s.2.1 16)) * o)) 256) fun b =>
    Option.bind (D_darkslideref_clamp N (IntKind.i64.wrap (r.2.1 + b))) fun b' =>
    Option.bind (D_darkslideref_down N (IntKind.i64.wrap (IntKind.i64.wrap (r.2.2 - IntKind.i64.wrap (Int.tdiv s.2.2 16)) * o)) 256) fun c =>
    Option.bind (D_darkslideref_clamp N (IntKind.i64.wrap (r.2.2 + c))) fun c' => kk (a', b', c', 3) := by kernel_rfl
theorem doc_l5_raw (N fuel : Nat) {dx dy : Int} (hdx : -1 ≤ dx ∧ dx ≤ 1) (hdy : -1 ≤ dy ∧ dy ≤ 1) (n a : Px) (kk) :
    D_darkslideref_Sharp_l5 N dy dx n kk (fuel + 4) (a.1, a.2.1, a.2.2, 0) = kk (IntKind.i64.wrap (a.1 + IntKind.i64.wrap (IntKind.i64.wrap (n.1 * (2 - dx * dx)) * (2 - dy * dy))), IntKind.i64.wrap (a.2.1 + IntKind.i64.wrap (IntKind.i64.wrap (n.2.1 * (2 - dx * dx)) * (2 - dy * dy))), IntKind.i64.wrap (a.2.2 + IntKind.i64.wrap (IntKind.i64.wrap (n.2.2 * (2 - dx * dx)) * (2 - dy * dy))), 3) := by
  have h1 : dx = -1 ∨ dx = 0 ∨ dx = 1 := by omega
  have h2 : dy = -1 ∨ dy = 0 ∨ dy = 1 := by omega
  rcases h1 with rfl | rfl | rfl <;> rcases h2 with rfl | rfl | rfl <;> (show _ = _) <;> kernel_rfl
theorem doc_l5 (N fuel : Nat) {dx dy : Int} (hdx : -1 ≤ dx ∧ dx ≤ 1) (hdy : -1 ≤ dy ∧ dy ≤ 1) {n a : Px} (hn : bd3 n 65535) (ha : bd3 a 100000000) (kk) :
    D_darkslideref_Sharp_l5 N dy dx n kk (fuel + 4) (a.1, a.2.1, a.2.2, 0) = kk ((sadd (wt dx dy) n a).1, (sadd (wt dx dy) n a).2.1, (sadd (wt dx dy) n a).2.2, 3) := by
  obtain ⟨n1, n2, n3⟩ := hn
  obtain ⟨a1, a2, a3⟩ := ha
  have raw := doc_l5_raw N fuel hdx hdy n a kk
  have hw := wt_in hdx hdy
  have q1 := sq_in hdx
  have q2 := sq_in hdy
  have part : ∀ m b : Int, (0 ≤ m ∧ m ≤ 65535) → (0 ≤ b ∧ b ≤ 100000000) → IntKind.i64.wrap (b + IntKind.i64.wrap (IntKind.i64.wrap (m * (2 - dx * dx)) * (2 - dy * dy))) = b + wt dx dy * m := by
    intro m b hm hb
    have e1 := mul_in (a := 65535) (b := 2) (x := m) (y := 2 - dx * dx) (by omega) (by omega)
    have e2 : m * (2 - dx * dx) * (2 - dy * dy) = wt dx dy * m := by unfold wt; rw [Int.mul_assoc, Int.mul_comm]
    have e3 := wmul hw hm
    rw [w64 (x := m * (2 - dx * dx)) (by omega), e2, w64 (x := wt dx dy * m) (by omega), w64 (by omega)]
  rw [raw, part _ _ n1 a1, part _ _ n2 a2, part _ _ n3 a3]
  rfl
section
variable {W H : Nat} {P : List Px} (hp : picF W H P = true)
include hp
theorem doc_step (fuel : Nat) {x y : Nat} (hx : x < W) (hy : y < H) {dx dy dx' : Int} (hdx : -1 ≤ dx ∧ dx ≤ 1) (hdy : -1 ≤ dy ∧ dy ≤ 1) (kk) {a : Px} (ha : bd3 a 100000000) (hd' : dx' = dx + 1) :
    D_darkslideref_Sharp_l4 5000 W H P y x dy kk (fuel + 1) (a.1, a.2.1, a.2.2, dx) = D_darkslideref_Sharp_l4 5000 W H P y x dy kk fuel ((sadd (wt dx dy) (nb P W H x y dy dx) a).1, (sadd (wt dx dy) (nb P W H x y dy dx) a).2.1, (sadd (wt dx dy) (nb P W H x y dy dx) a).2.2, dx') := by
  subst hd'
  obtain ⟨h1, h2, h3, h4, h5, h6⟩ := pic_nat hp
  obtain ⟨n1, n2⟩ := nb_at (x := x) (y := y) hp dy dx
  have c1 := cl_lt (y := y) (dy := dy) h3
  have c2 := cl_lt (y := x) (dy := dx) h1
  have c3 := place_lt c2 c1
  conv => lhs; unfold D_darkslideref_Sharp_l4
  rw [cT (dT hdx.2), w64 (x := (y : Int) + dy) (by omega), w64 (x := (H : Int) - 1) (by omega), w64 (x := (x : Int) + dx) (by omega), w64 (x := (W : Int) - 1) (by omega), cl_doc h3, cl_doc h1]
  rw [w64 (x := ((cl y dy H : Nat) : Int) * (W : Int)) (by rw [← Int.natCast_mul]; omega), ← Int.natCast_mul, ← Int.natCast_add, w64 (x := ((cl y dy H * W + cl x dx W : Nat) : Int)) (by omega), bsome, n1, bsome]
  unfold D_darkslideref_parts
  rw [bsome]
  refine (doc_l5 5000 4996 hdx hdy (n := nb P W H x y dy dx) (okPx_bd n2) ha _).trans ?_
  dsimp only
  rw [bsome, w64 (x := dx + 1) (by omega)]
theorem doc_row (fuel : Nat) {x y : Nat} (hx : x < W) (hy : y < H) {dy : Int} (hdy : -1 ≤ dy ∧ dy ≤ 1) (kk) {a : Px} (ha : bd3 a 50000000) :
    D_darkslideref_Sharp_l4 5000 W H P y x dy kk (fuel + 4) (a.1, a.2.1, a.2.2, -1) = kk ((rowS P W H x y dy a).1, (rowS P W H x y dy a).2.1, (rowS P W H x y dy a).2.2, 2) := by
  have b0 : bd3 a 100000000 := by unfold bd3 at ha ⊢; omega
  have b1 := sadd_bd (wt_in (dx := -1) (by omega) hdy) (okPx_bd (nb_at (x := x) (y := y) hp dy (-1)).2) ha
  have b2 := sadd_bd (wt_in (dx := 0) (by omega) hdy) (okPx_bd (nb_at (x := x) (y := y) hp dy 0).2) b1
  have up : ∀ {c : Px} {m : Int}, bd3 c m → m ≤ 100000000 → bd3 c 100000000 := fun h hm => by unfold bd3 at h ⊢; omega
  rw [doc_step hp (fuel + 3) hx hy (by omega) hdy kk b0 (dx' := 0) (by omega), doc_step hp (fuel + 2) hx hy (dx := 0) (by omega) hdy kk (up b1 (by omega)) (dx' := 1) (by omega), doc_step hp (fuel + 1) hx hy (dx := 1) (by omega) hdy kk (up b2 (by omega)) (dx' := 2) (by omega)]
  unfold D_darkslideref_Sharp_l4
  rw [cF (dF (by omega))]
  rfl
theorem doc_sum {x y : Nat} (hx : x < W) (hy : y < H) (kk) :
    D_darkslideref_Sharp_l3 5000 W H P y x kk 5000 (0, 0, 0, -1) = kk ((sumS P W H x y).1, (sumS P W H x y).2.1, (sumS P W H x y).2.2, 2) := by
  have h0 : bd3 ((0, 0, 0) : Px) 0 := by unfold bd3; simp
  have h1 := rowS_bd (x := x) (y := y) hp (dy := -1) (by omega) h0
  have h2 := rowS_bd (x := x) (y := y) hp (dy := 0) (by omega) h1
  have up : ∀ {a : Px} {m : Int}, bd3 a m → m ≤ 50000000 → bd3 a 50000000 := fun h hm => by unfold bd3 at h ⊢; omega
  have one : ∀ (fuel : Nat) (dy dy' : Int), (-1 ≤ dy ∧ dy ≤ 1) → dy' = dy + 1 → ∀ (a : Px), bd3 a 50000000 → D_darkslideref_Sharp_l3 5000 W H P y x kk (fuel + 1) (a.1, a.2.1, a.2.2, dy) = D_darkslideref_Sharp_l3 5000 W H P y x kk fuel ((rowS P W H x y dy a).1, (rowS P W H x y dy a).2.1, (rowS P W H x y dy a).2.2, dy') := by
    intro fuel dy dy' hd hd' a ha
    subst hd'
    conv => lhs; unfold D_darkslideref_Sharp_l3
    rw [cT (dT hd.2)]
    refine (doc_row hp 4996 hx hy hd _ ha).trans ?_
    dsimp only
    rw [w64 (x := dy + 1) (by omega), bsome]
  refine (one 4999 (-1) 0 (by omega) (by omega) (0, 0, 0) (up h0 (by omega))).trans ?_
  refine (one 4998 0 1 (by omega) (by omega) _ (up h1 (by omega))).trans ?_
  refine (one 4997 1 2 (by omega) (by omega) _ (up h2 (by omega))).trans ?_
  unfold D_darkslideref_Sharp_l3
  rw [cF (dF (by omega))]
  rfl
theorem doc_l2 {amount : Int} (ha : 0 ≤ amount ∧ amount ≤ 1024) (kk) {y : Nat} (hy : y < H) : ∀ (d x fuel : Nat), x + d = W → d < fuel →
    D_darkslideref_Sharp_l2 5000 W H P amount y kk fuel (pre W (shF amount W H P) (y * W + x), (x : Int)) = kk (pre W (shF amount W H P) ((y + 1) * W + 0), (W : Int)) := by
  obtain ⟨h1, h2, h3, h4, h5, h6⟩ := pic_nat hp
  intro d
  induction d with
  | zero =>
    intro x fuel hk hf
    obtain ⟨fuel, rfl⟩ : ∃ m, fuel = m + 1 := ⟨fuel - 1, by omega⟩
    obtain rfl : x = W := by omega
    unfold D_darkslideref_Sharp_l2
    rw [cF (dF (by omega)), pre_row]
  | succ d ih =>
    intro x fuel hk hf
    obtain ⟨fuel, rfl⟩ : ∃ m, fuel = m + 1 := ⟨fuel - 1, by omega⟩
    have hx : x < W := by omega
    have hpl := place_lt hx hy
    obtain ⟨g1, g2⟩ := pic_at hp hpl
    have hs := sumS_bd (x := x) (y := y) hp
    obtain ⟨s1, s2, s3⟩ := hs
    obtain ⟨p1, p2, p3⟩ := okPx_bd g2
    unfold D_darkslideref_Sharp_l2
    rw [cT (dT (by omega)), w64 (x := (y : Int) * (W : Int)) (by rw [← Int.natCast_mul]; omega), ← Int.natCast_mul, ← Int.natCast_add, w64 (x := ((y * W + x : Nat) : Int)) (by omega), g1, bsome]
    unfold D_darkslideref_parts
    rw [bsome]
    refine (doc_sum hp hx hy _).trans ?_
    dsimp only
    refine (doc_l6 5000 4996 amount (pxOf P W x y) (sumS P W H x y) _).trans ?_
    rw [bind2, sh1_doc 5000 (v := (pxOf P W x y).1) ha p1 s1, bsome, bind2, sh1_doc 5000 (v := (pxOf P W x y).2.1) ha p2 s2, bsome, bind2, sh1_doc 5000 (v := (pxOf P W x y).2.2) ha p3 s3, bsome]
    unfold D_darkslideref_pixel
    dsimp only
    have e : (sh1 amount (pxOf P W x y).1 (sumS P W H x y).1, sh1 amount (pxOf P W x y).2.1 (sumS P W H x y).2.1, sh1 amount (pxOf P W x y).2.2 (sumS P W H x y).2.2) = shF amount W H P x y := rfl
    rw [bsome, e, app_eq (by rw [pre_len]; simp; omega), bsome, bsome, w64 (by omega), ← pre_succ (shF amount W H P) y hx]
    exact ih (x + 1) fuel (by omega) (by omega)
theorem doc_l1 {amount : Int} (ha : 0 ≤ amount ∧ amount ≤ 1024) (kk) : ∀ (d y fuel : Nat), y + d = H → d < fuel →
    D_darkslideref_Sharp_l1 5000 W H P amount kk fuel (pre W (shF amount W H P) (y * W + 0), (y : Int)) = kk (pre W (shF amount W H P) (H * W + 0), (H : Int)) := by
  obtain ⟨h1, h2, h3, h4, h5, h6⟩ := pic_nat hp
  intro d
  induction d with
  | zero =>
    intro y fuel hk hf
    obtain ⟨fuel, rfl⟩ : ∃ m, fuel = m + 1 := ⟨fuel - 1, by omega⟩
    obtain rfl : y = H := by omega
    unfold D_darkslideref_Sharp_l1
    rw [cF (dF (by omega))]
  | succ d ih =>
    intro y fuel hk hf
    obtain ⟨fuel, rfl⟩ : ∃ m, fuel = m + 1 := ⟨fuel - 1, by omega⟩
    unfold D_darkslideref_Sharp_l1
    rw [cT (dT (by omega))]
    refine (doc_l2 hp ha _ (y := y) (by omega) W 0 5000 (by omega) (by omega)).trans ?_
    dsimp only
    rw [bsome, w64 (by omega)]
    exact ih (y + 1) fuel (by omega) (by omega)
theorem sharp_eq {amount : Int} (ha : 0 ≤ amount ∧ amount ≤ 1024) : D_darkslideref_Sharp 5000 W H P amount = some ((W : Int), (H : Int), mkL W H (shF amount W H P)) := by
  obtain ⟨h1, h2, h3, h4, h5, h6⟩ := pic_nat hp
  unfold D_darkslideref_Sharp
  have := doc_l1 hp ha (fun x : List Px × Int => some ((W : Int), (H : Int), x.1)) H 0 5000 (by omega) (by omega)
  simp only [Nat.zero_mul, Nat.add_zero, pre, List.range_zero, List.map_nil] at this
  refine this.trans ?_
  rw [mkL, Nat.mul_comm]
end
theorem toneSharpens_true (W H : Int) (P : List Px) (amount : Int) : D_darkslidelaw_ToneSharpens 5000 W H P amount = some true := by
  have h0 := same_eq 5000 0 0 [] (by simp) (by simp)
  unfold D_darkslidelaw_ToneSharpens
  rw [sharpen_eq, bsome, pictureFine_eq 5000 W H P (by omega), bsome, toneBegun_eq]
  cases hp : picF W H P
  · simp only [if_true, bsome, h0]; rfl
  · have hs := picF_side hp
    obtain ⟨W, rfl⟩ : ∃ n : Nat, W = n := ⟨W.toNat, by have := hs.1; omega⟩
    obtain ⟨H, rfl⟩ : ∃ n : Nat, H = n := ⟨H.toNat, by have := hs.2.2.1; omega⟩
    obtain ⟨h1, h2, h3, h4, h5, h6⟩ := pic_nat hp
    rw [if_neg (by simp), cF (by rfl)]
    by_cases a1 : amount < 0
    · rw [cT (dT a1), if_neg (by omega)]
      simp only [bsome, h0]; rfl
    rw [cF (dF a1)]
    by_cases a2 : 1024 < amount
    · rw [cT (dT a2), if_neg (by omega)]
      simp only [bsome, h0]; rfl
    rw [cF (dF a2), if_pos (by omega), sharp_eq hp (by omega), Int.toNat_natCast, Int.toNat_natCast]
    have hsm := same_any 5000 W H (W * H) (mkL W H (shF amount W H P)) (mkL_len _ _ _) h6 (by omega)
    simp only [bsome, hsm]
    rfl
/-! ### A picture of one colour -/
theorem sh1_zero {v : Int} (blur : Int) (hv : 0 ≤ v ∧ v ≤ 65535) : sh1 0 v blur = v := by
  unfold sh1
  rw [Int.mul_zero, w64 (x := 0) (by omega), shr8, show (0 : Int) / 256 = 0 from rfl, Int.add_zero, w64 (by omega)]
  omega
theorem sh1_flat (amount : Int) {v : Int} (hv : 0 ≤ v ∧ v ≤ 65535) : sh1 amount v (16 * v) = v := by
  unfold sh1
  rw [shr4, show 16 * v / 16 = v by omega, Int.sub_self, w64 (x := 0) (by omega), Int.zero_mul, w64 (x := 0) (by omega), shr8, show (0 : Int) / 256 = 0 from rfl, Int.add_zero, w64 (by omega)]
  omega
theorem shF_zero {W H : Nat} {P : List Px} (hp : picF W H P = true) : mkL W H (shF 0 W H P) = P := by
  obtain ⟨h1, h2, h3, h4, h5, h6⟩ := pic_nat hp
  refine Eq.trans (mkL_ext fun x y hx hy => ?_) (mkL_self h5)
  obtain ⟨p1, p2, p3⟩ := okPx_bd (pic_at hp (place_lt hx hy)).2
  show (sh1 0 (pxOf P W x y).1 _, sh1 0 (pxOf P W x y).2.1 _, sh1 0 (pxOf P W x y).2.2 _) = pxOf P W x y
  rw [sh1_zero (v := (pxOf P W x y).1) _ p1, sh1_zero (v := (pxOf P W x y).2.1) _ p2, sh1_zero (v := (pxOf P W x y).2.2) _ p3]
theorem sum_flat {W H : Nat} {c : Px} {P : List Px} (hW : 1 ≤ W ∧ 1 ≤ H) (hP : P = List.replicate (W * H) c) (x y : Nat) : sumS P W H x y = (16 * c.1, 16 * c.2.1, 16 * c.2.2) := by
  have hn : ∀ dy dx, nb P W H x y dy dx = c := fun dy dx => by
    have hlt := place_lt (cl_lt (y := x) (dy := dx) hW.1) (cl_lt (y := y) (dy := dy) hW.2)
    unfold nb
    rw [hP, List.getD_eq_getElem?_getD, List.getElem?_replicate, if_pos hlt]; rfl
  have w : wt (-1) (-1) = 1 ∧ wt 0 (-1) = 2 ∧ wt 1 (-1) = 1 ∧ wt (-1) 0 = 2 ∧ wt 0 0 = 4 ∧ wt 1 0 = 2 ∧ wt (-1) 1 = 1 ∧ wt 0 1 = 2 ∧ wt 1 1 = 1 := by decide
  obtain ⟨w1, w2, w3, w4, w5, w6, w7, w8, w9⟩ := w
  simp only [sumS, rowS, hn, sadd, w1, w2, w3, w4, w5, w6, w7, w8, w9, Prod.mk.injEq]
  omega
theorem pic_flat {W H : Nat} {c : Px} (hW : 1 ≤ W ∧ W ≤ 64 ∧ 1 ≤ H ∧ H ≤ 64) (hc : okPx c = true) (amount : Int) : picF W H (List.replicate (W * H) c) = true ∧ mkL W H (shF amount W H (List.replicate (W * H) c)) = List.replicate (W * H) c := by
  have hp : picF W H (List.replicate (W * H) c) = true := by
    simp only [picF, Bool.and_eq_true, decide_eq_true_eq]
    refine ⟨⟨by omega, by omega, by omega, by omega, by rw [List.length_replicate, Int.natCast_mul]⟩, List.all_eq_true.2 fun p hp => ?_⟩
    rw [List.eq_of_mem_replicate hp]; exact hc
  refine ⟨hp, ?_⟩
  obtain ⟨h1, h2, h3, h4, h5, h6⟩ := pic_nat hp
  refine Eq.trans (mkL_ext fun x y hx hy => ?_) (mkL_self h5)
  have hpx : pxOf (List.replicate (W * H) c) W x y = c := by
    unfold pxOf
    rw [List.getD_eq_getElem?_getD, List.getElem?_replicate, if_pos (place_lt hx hy)]; rfl
  obtain ⟨p1, p2, p3⟩ := okPx_bd hc
  unfold shF shP
  rw [hpx, sum_flat (c := c) ⟨h1, h3⟩ rfl]
  dsimp only
  rw [sh1_flat _ p1, sh1_flat _ p2, sh1_flat _ p3]
theorem rep_snoc {α : Type} (c : α) (k : Nat) : List.replicate k c ++ [c] = List.replicate (k + 1) c := List.replicate_succ'.symm
theorem flat_l1 {W H : Nat} (hW : 1 ≤ W ∧ W ≤ 64 ∧ 1 ≤ H ∧ H ≤ 64) (c : Px) (kk) : ∀ (d k fuel : Nat), k + d = W * H → d < fuel →
    D_darkslidelaw_ToneFlat_l1 5000 c.1 c.2.1 c.2.2 W H kk fuel (List.replicate k c, (k : Int)) = kk (List.replicate (W * H) c, ((W * H : Nat) : Int)) := by
  have hm := Nat.mul_le_mul hW.2.1 hW.2.2.2
  have hw : IntKind.i64.wrap ((W : Int) * H) = ((W * H : Nat) : Int) := by rw [← Int.natCast_mul, w64 (by omega)]
  intro d
  induction d with
  | zero =>
    intro k fuel hk hf
    obtain ⟨fuel, rfl⟩ : ∃ m, fuel = m + 1 := ⟨fuel - 1, by omega⟩
    obtain rfl : k = W * H := by omega
    unfold D_darkslidelaw_ToneFlat_l1
    rw [hw, cF (dF (by omega))]
  | succ d ih =>
    intro k fuel hk hf
    obtain ⟨fuel, rfl⟩ : ∃ m, fuel = m + 1 := ⟨fuel - 1, by omega⟩
    unfold D_darkslidelaw_ToneFlat_l1
    rw [hw, cT (dT (by omega)), app_eq (by simp; omega), bsome, bsome, w64 (by omega)]
    have : List.replicate k c ++ [(c.1, c.2.1, c.2.2)] = List.replicate (k + 1) c := rep_snoc c k
    rw [this]
    exact ih (k + 1) fuel (by omega) (by omega)
theorem flat_l2 {W H : Nat} (hW : 1 ≤ W ∧ W ≤ 64 ∧ 1 ≤ H ∧ H ≤ 64) (c : Px) (kk) : ∀ (d k fuel : Nat), k + d = W * H → d < fuel →
    D_darkslidelaw_ToneFlat_l2 5000 c.1 c.2.1 c.2.2 W H kk fuel (List.replicate k c, (k : Int)) = kk (List.replicate (W * H) c, ((W * H : Nat) : Int)) := by
  have hm := Nat.mul_le_mul hW.2.1 hW.2.2.2
  have hw : IntKind.i64.wrap ((W : Int) * H) = ((W * H : Nat) : Int) := by rw [← Int.natCast_mul, w64 (by omega)]
  intro d
  induction d with
  | zero =>
    intro k fuel hk hf
    obtain ⟨fuel, rfl⟩ : ∃ m, fuel = m + 1 := ⟨fuel - 1, by omega⟩
    obtain rfl : k = W * H := by omega
    unfold D_darkslidelaw_ToneFlat_l2
    rw [hw, cF (dF (by omega))]
  | succ d ih =>
    intro k fuel hk hf
    obtain ⟨fuel, rfl⟩ : ∃ m, fuel = m + 1 := ⟨fuel - 1, by omega⟩
    unfold D_darkslidelaw_ToneFlat_l2
    rw [hw, cT (dT (by omega)), app_eq (by simp; omega), bsome, bsome, w64 (by omega)]
    have : List.replicate k c ++ [(c.1, c.2.1, c.2.2)] = List.replicate (k + 1) c := rep_snoc c k
    rw [this]
    exact ih (k + 1) fuel (by omega) (by omega)
/-- A picture of one colour, sharpened: as it was, or told to be none. -/
theorem flat_tail {W H : Nat} (hW : 1 ≤ W ∧ W ≤ 64 ∧ 1 ≤ H ∧ H ≤ 64) (c : Px) (amount : Int) :
    (Option.bind (D_tone_Sharpen 5000 W H (List.replicate (W * H) c) amount) fun r8 => Option.bind (D_darkslidelaw_toneBegun 5000) fun r9 =>
      cond r9 (cond (!decide (r8.2.2.2 = 0)) (some true) (Option.bind (D_darkslideref_SamePictures 5000 r8.1 r8.2.1 r8.2.2.1 W H (List.replicate (W * H) c)) fun r10 => some r10)) (some false)) = some true := by
  have hm := Nat.mul_le_mul hW.2.1 hW.2.2.2
  rw [sharpen_eq, bsome, toneBegun_eq, bsome, cond_true]
  cases hp : picF W H (List.replicate (W * H) c)
  · rfl
  · have hc : okPx c = true := by
      have hpos := Nat.mul_pos (show 0 < W by omega) (show 0 < H by omega)
      exact okPx_of hp (i := 0) (by rw [List.getElem?_replicate, if_pos hpos])
    rw [if_neg (by simp)]
    by_cases ha : 0 ≤ amount ∧ amount ≤ 1024
    · rw [if_pos ha, Int.toNat_natCast, Int.toNat_natCast, (pic_flat hW hc amount).2]
      dsimp only
      rw [cF (by rfl), same_any 5000 W H (W * H) (List.replicate (W * H) c) (by simp) hm (by omega)]
      rfl
    · rw [if_neg ha]; rfl
theorem toneFlat_true (a b c w h amount : Int) (W H : Int) (P : List Px) : D_darkslidelaw_ToneFlat 5000 a b c w h amount W H P = some true := by
  unfold D_darkslidelaw_ToneFlat
  rw [sharpen_eq, bsome]
  have fin : ∀ l1 : (List Px × Int → Option Bool) → Option Bool, (∀ (w' h' : Nat), w = w' → h = h' → (1 ≤ w' ∧ w' ≤ 64 ∧ 1 ≤ h' ∧ h' ≤ 64) → ∀ kk, l1 kk = kk (List.replicate (w' * h') (a, b, c), ((w' * h' : Nat) : Int))) →
      (cond (decide (w < 1)) (Option.bind (D_darkslidelaw_toneBegun 5000) fun r4 => some r4) (cond (decide (64 < w)) (Option.bind (D_darkslidelaw_toneBegun 5000) fun r4 => some r4) (cond (decide (h < 1)) (Option.bind (D_darkslidelaw_toneBegun 5000) fun r4 => some r4) (cond (decide (64 < h)) (Option.bind (D_darkslidelaw_toneBegun 5000) fun r4 => some r4) (l1 (fun (x_P4, i2) =>
        Option.bind (D_tone_Sharpen 5000 w h x_P4 amount) fun r8 => Option.bind (D_darkslidelaw_toneBegun 5000) fun r9 =>
        cond r9 (cond (!decide (r8.2.2.2 = 0)) (some true) (Option.bind (D_darkslideref_SamePictures 5000 r8.1 r8.2.1 r8.2.2.1 w h x_P4) fun r10 => some r10)) (some false))))))) = some true := by
    intro l1 hl
    by_cases h1 : w < 1
    · rw [cT (dT h1), toneBegun_eq]; rfl
    rw [cF (dF h1)]
    by_cases h2 : 64 < w
    · rw [cT (dT h2), toneBegun_eq]; rfl
    rw [cF (dF h2)]
    by_cases h3 : h < 1
    · rw [cT (dT h3), toneBegun_eq]; rfl
    rw [cF (dF h3)]
    by_cases h4 : 64 < h
    · rw [cT (dT h4), toneBegun_eq]; rfl
    rw [cF (dF h4)]
    obtain ⟨w', rfl⟩ : ∃ n : Nat, w = n := ⟨w.toNat, by omega⟩
    obtain ⟨h', rfl⟩ : ∃ n : Nat, h = n := ⟨h.toNat, by omega⟩
    rw [hl w' h' rfl rfl (by omega)]
    exact flat_tail (by omega) (a, b, c) amount
  have l1 : ∀ (w' h' : Nat), w = w' → h = h' → (1 ≤ w' ∧ w' ≤ 64 ∧ 1 ≤ h' ∧ h' ≤ 64) → ∀ kk, D_darkslidelaw_ToneFlat_l1 5000 a b c w h kk 5000 ([], 0) = kk (List.replicate (w' * h') (a, b, c), ((w' * h' : Nat) : Int)) := by
    rintro w' h' rfl rfl hW kk
    have hm := Nat.mul_le_mul hW.2.1 hW.2.2.2
    exact flat_l1 hW (a, b, c) kk (w' * h') 0 5000 (by omega) (by omega)
  have l2 : ∀ (w' h' : Nat), w = w' → h = h' → (1 ≤ w' ∧ w' ≤ 64 ∧ 1 ≤ h' ∧ h' ≤ 64) → ∀ kk, D_darkslidelaw_ToneFlat_l2 5000 a b c w h kk 5000 ([], 0) = kk (List.replicate (w' * h') (a, b, c), ((w' * h' : Nat) : Int)) := by
    rintro w' h' rfl rfl hW kk
    have hm := Nat.mul_le_mul hW.2.1 hW.2.2.2
    exact flat_l2 hW (a, b, c) kk (w' * h') 0 5000 (by omega) (by omega)
  cases hp : picF W H P
  · rw [if_pos rfl]
    dsimp only
    rw [cF (by decide)]
    exact fin (fun kk => D_darkslidelaw_ToneFlat_l2 5000 a b c w h kk 5000 ([], 0)) l2
  · have hs := picF_side hp
    obtain ⟨W, rfl⟩ : ∃ n : Nat, W = n := ⟨W.toNat, by have := hs.1; omega⟩
    obtain ⟨H, rfl⟩ : ∃ n : Nat, H = n := ⟨H.toNat, by have := hs.2.2.1; omega⟩
    obtain ⟨h1, h2, h3, h4, h5, h6⟩ := pic_nat hp
    rw [if_neg (by simp), if_pos (by omega), Int.toNat_natCast, Int.toNat_natCast, shF_zero hp]
    dsimp only
    rw [cT (by rfl), same_any 5000 W H (W * H) P h5 h6 (by omega), bsome, cF (by rfl)]
    exact fin (fun kk => D_darkslidelaw_ToneFlat_l1 5000 a b c w h kk 5000 ([], 0)) l1
end Go.Proofs.Ytpmnfhifmmfglab
