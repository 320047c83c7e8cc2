/- sensor.Repair in the shape of the printed walks. -/
import Derived.Test.YtpmnfhifmmfglaaORepair
import Derived.Test.YtpmnfhifmmfglaaD6
set_option linter.unusedVariables false
set_option linter.unusedSimpArgs false
set_option linter.unusedSectionVars false
namespace Go.Proofs.Ytpmnfhifmmfglaa
open Go.RowKit
theorem all_int : ∀ xs : List Int, (cI .i64).all xs = VI xs
  | [] => rfl
  | x :: xs => by
    have := all_int xs
    simp only [Cod.all, VI, List.flatMap_cons, List.map_cons] at this ⊢
    rw [this]; rfl
theorem RI_of {w : World} {A : Option Addr} {xs : List Int} (h : SL w (cI .i64) A xs) : RI w 0 A xs.length xs := by
  refine ⟨by simp [VI], fun hn => ?_⟩
  obtain ⟨b, o, hA, hc⟩ := h hn
  have hall := all_int xs
  rw [hall] at hc
  refine ⟨b, o, hA, Nat.zero_le _, ?_, hc⟩
  have h0 : (VI xs)[0]? = some (.int .i64 xs[0]) := by simp [VI, List.getElem?_eq_getElem hn]
  exact block_lt_of_cell (hc 0 _ h0)
theorem RS_of {w : World} {A : Option Addr} {l : List (Int × Int)} (h : SL w cII A l) : RS w 0 A l.length l := by
  refine ⟨rfl, fun hn => ?_⟩
  obtain ⟨b, o, hA, hc⟩ := h hn
  have key : ∀ (k : Nat) x y, l[k]? = some (x, y) → (cII.all l)[k * 2]? = some (.int .i64 x) ∧ (cII.all l)[k * 2 + 1]? = some (.int .i64 y) := fun k x y hk => by
    exact ⟨by simpa [cII] using Cod.all_get cII l k 0 (x, y) _ hk rfl, Cod.all_get cII l k 1 (x, y) _ hk rfl⟩
  have h0 := (key 0 l[0].1 l[0].2 (List.getElem?_eq_getElem hn)).1
  refine ⟨b, o, hA, Nat.zero_le _, block_lt_of_cell (hc _ _ h0), fun k x y hk => ?_⟩
  obtain ⟨h1, h2⟩ := key k x y hk
  exact ⟨hc _ _ h1, by have := hc _ _ h2; rwa [← Nat.add_assoc] at this⟩
theorem Mem.ofOI {w w' : World} {A : Option Addr} {n c : Nat} {xs : List Int} (hb : Below w.heap.size w w') (h : OI w' w.heap.size A n c xs) (hn : n ≤ maxLen) : Mem w.heap.size w w' [.row 3 1 A xs.length c ((cI .i64).all xs)] := by
  obtain ⟨g, rfl, rfl, hg, hl, hB⟩ := h
  have hall := all_int xs
  have M1 : Mem w.heap.size w w' [.blk g 3 (VI xs)] := by
    refine (Mem.fin0 hb).cons hB fun g' hg' => ?_
    simp [Ent.foot] at hg'
    subst hg'
    exact ⟨hg, fun i e h => by simp at h⟩
  exact M1.asRow 0 rfl (cI .i64) xs hall hl rfl hn
theorem W_sensor_Repair (N : Nat) (p_W : Int) (p_H : Int) (p_P : List Int) (A_p_P : Option Addr) (c_p_P : Nat) (l : List (Int × Int)) (A_l : Option Addr) (c_l : Nat) (w0 : World) (R_p_P : SL w0 (cI .i64) A_p_P p_P) (C_p_P : p_P.length ≤ c_p_P) (R_l : SL w0 cII A_l l) (C_l : l.length ≤ c_l) (r : Int × Int × List Int × Int) (h : D_sensor_Repair N p_W p_H p_P l = some r) :
    Calls Try.prog 19 #[.agg #[.int .i64 p_W, .int .i64 p_H, .slice A_p_P p_P.length c_p_P], .slice A_l l.length c_l] w0 fun e w' => ∃ v, e = .returned v ∧ ∃ A2 c2, v = .tuple #[.agg #[.int .i64 r.1, .int .i64 r.2.1, .slice A2 r.2.2.1.length c2], .int .i64 r.2.2.2] ∧ Mem w0.heap.size w0 w' [.row 3 1 A2 r.2.2.1.length c2 ((cI .i64).all r.2.2.1)] := by
  unfold D_sensor_Repair at h
  split at h
  · cases h
  rename_i hn
  have hn' : p_P.length ≤ maxLen := by simp only [maxLen]; omega
  have no : ∀ {w' : World} (k : Int), Below w0.heap.size w0 w' → ∃ v, Ending.returned (.tuple #[noPlane, .int .i64 k]) = Ending.returned v ∧ ∃ A2 c2, v = .tuple #[.agg #[.int .i64 (0 : Int), .int .i64 (0 : Int), .slice A2 ([] : List Int).length c2], .int .i64 k] ∧ Mem w0.heap.size w0 w' [.row 3 1 A2 ([] : List Int).length c2 ((cI .i64).all [])] :=
    fun k hb => ⟨_, rfl, none, 0, rfl, Mem.nilrow 3 1 (cI .i64) (Mem.fin0 hb)⟩
  split at h
  · rename_i hf
    cases h
    refine (repair_form p_W p_H A_p_P A_l p_P.length c_p_P l.length c_l p_P l w0 (RI_of R_p_P) (RS_of R_l) hn' hf).mono ?_
    rintro e w' ⟨rfl, hb⟩
    exact no 1 hb
  rename_i hf
  have hf' : planeFine p_W p_H p_P = true := by simpa using hf
  split at h
  · rename_i hm
    cases h
    refine (repair_many p_W p_H A_p_P A_l p_P.length c_p_P l.length c_l p_P l w0 (RI_of R_p_P) (RS_of R_l) hn' hf' hm).mono ?_
    rintro e w' ⟨rfl, hb⟩
    exact no 2 hb
  rename_i hm
  obtain ⟨⟨h1, h2, h3, h4⟩, _, _⟩ := planeFine_iff.1 hf'
  obtain ⟨m, rfl⟩ : ∃ m : Nat, p_W = m := ⟨p_W.toNat, by omega⟩
  have hr := repair_rest p_H A_p_P A_l p_P.length c_p_P l.length c_l p_P l w0 m (RI_of R_p_P) (RS_of R_l) hn' hf' (by omega)
  refine hr.mono ?_
  intro e w' hp
  unfold RepairPost at hp
  split at h
  · rename_i ha
    cases h
    rw [if_neg (by simp [ha])] at hp
    obtain ⟨rfl, hb⟩ := hp
    exact no 3 hb
  · rename_i ha
    cases h
    rw [if_pos (by simpa using ha)] at hp
    obtain ⟨A', c', rfl, ⟨_, ho⟩, hb⟩ := hp
    have hl : ((List.range p_P.length).map (repairL (m : Int) p_H l p_P)).length = p_P.length := by simp
    refine ⟨_, rfl, A', c', by rw [hl], Mem.ofOI hb ho hn'⟩
end Go.Proofs.Ytpmnfhifmmfglaa
