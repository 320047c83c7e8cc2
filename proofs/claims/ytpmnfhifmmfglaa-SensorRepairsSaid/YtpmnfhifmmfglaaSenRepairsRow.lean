/- It is proved that the law SensorRepairs answers true for every plane and every list of spots, and leaves its arguments as they were. Conditions: none. -/
import Derived.Test.YtpmnfhifmmfglaaRowSpots
import Derived.Test.YtpmnfhifmmfglaaSenRepairs
namespace Go.Proofs.Ytpmnfhifmmfglaa
open Go.ChangeShapes Go.WideShapes Go.ChangeAt Go.RowKit Go.Joins

theorem senRepairs_any (W H : Int) (A A2 : Option Addr) (n c n2 c2 : Nat) (xs : List Int) (l : List (Int × Int)) (w : World) (h : RI w 0 A n xs) (hn : n ≤ maxLen) (hs : RS w 0 A2 n2 l) :
    Calls Try.prog 4 #[.agg #[.int .i64 W, .int .i64 H, .slice A n c], .slice A2 n2 c2] w fun e w' => e = .returned (.bool true) ∧ Below w.heap.size w w' := by
  cases hf : planeFine W H xs
  · exact senRepairs_err _ _ _ _ _ _ _ _ _ 1 (by decide) (fun wx hb => repair_form _ _ _ _ _ _ _ _ _ _ _ (h.below hb (Nat.le_refl _)) (hs.below hb (Nat.le_refl _)) hn hf) (fun wx hb => repairError_form _ _ _ _ _ _ _ _ _ _ (h.below hb (Nat.le_refl _)) hn hf)
  · obtain ⟨⟨h1, _, h3, _⟩, _⟩ := planeFine_iff.1 hf
    obtain ⟨m, rfl⟩ := Int.eq_ofNat_of_zero_le (show 0 ≤ W by omega)
    obtain ⟨q, rfl⟩ := Int.eq_ofNat_of_zero_le (show 0 ≤ H by omega)
    by_cases hm : n2 ≤ 64
    · cases ho : l.all (spotOk m q)
      · refine senRepairs_err _ _ _ _ _ _ _ _ _ 3 (by decide) (fun wx hb => ?_) (fun wx hb => ?_)
        · refine (repair_rest q A A2 n c n2 c2 xs l wx m (h.below hb (Nat.le_refl _)) (hs.below hb (Nat.le_refl _)) hn hf hm).mono fun e w' hp => ?_
          rw [RepairPost, if_neg (by rw [ho]; exact Bool.false_ne_true)] at hp
          exact hp
        · have := repairError_rest m q A A2 n c n2 c2 xs l wx (h.below hb (Nat.le_refl _)) (hs.below hb (Nat.le_refl _)) hn hf hm
          rwa [ho] at this
      · exact senRepairs_ok A A2 n c n2 c2 xs l w m q h hs hn hm hf ho
    · exact senRepairs_err _ _ _ _ _ _ _ _ _ 2 (by decide) (fun wx hb => repair_many _ _ _ _ _ _ _ _ _ _ _ (h.below hb (Nat.le_refl _)) (hs.below hb (Nat.le_refl _)) hn hf (by omega)) (fun wx hb => repairError_many _ _ _ _ _ _ _ _ _ _ (h.below hb (Nat.le_refl _)) hn hf (by omega))

set_option maxRecDepth 100000 in
theorem sensorRepairs_lifted (os : Os) (started : os.Started) (H : Type) (enc : TypeId × Value → H) :
    ReturnsInHanded {} Try.checked os 4 .any (Rows.sensorRepairsSpec.pre6 enc Try.prog Try.f4 Rows.sensorRepairsRow.domain false) (Rows.sensorRepairsSpec.post enc Try.prog Try.f4 false true false false) := by
  refine returnsInHanded_of_change (C := Try.checked) Try.own started (by kernel_rfl) Try.func4
    (ChangeSpec.witness6 (enc := enc) (C := Try.checked) false ⟨#[], #[.agg #[.int .i64 0, .int .i64 0, .slice none 0 0], .slice none 0 0], []⟩ 8 (by kernel_rfl) (by kernel_rfl) (by kernel_rfl) (by kernel_rfl)) ?_
  intro W base args ds gs before hval0 hW _ _
  have hval : ∀ (j : Nat) t v, Try.f4.params[j]? = some t → args[j]? = some v → Value.okWide Try.prog W .any base t v := hval0
  have hW' := hW
  obtain ⟨p, q, hA0, hV, rfl, _, _⟩ := hW
  have hA : DataW.TrodAll enc Try.prog W 0 (fun _ => true) true Try.f4.params.toList args.toList ds p := hA0
  rw [Try.params4] at hA hval
  obtain ⟨rfl, rfl⟩ := trodVars_none hV
  clear hA0 hval0
  obtain ⟨v0, vs0, d0, ds0, p0, q0, hargs, rfl, rfl, h0, r0⟩ := trodAll_cons hA
  obtain ⟨v1, vs1, d1, ds1, p1, q1, rfl, rfl, rfl, h1, r1⟩ := trodAll_cons r0
  obtain ⟨rfl, rfl, rfl⟩ := trodAll_nil r1
  obtain rfl : args = #[v0, v1] := by rw [← Array.toList_inj]; exact hargs
  clear hargs
  obtain ⟨a, b, A, n, c, xs, rfl, hr, hn, _, _⟩ := open_plane (hval 0 _ _ rfl rfl) h0
  obtain ⟨A2, n2, c2, l, rfl, hs, _⟩ := open_spots (hval 1 _ _ rfl rfl) h1
  refine (senRepairs_any a b A A2 n c n2 c2 xs l W hr hn hs).mono fun e W' ⟨he, hw⟩ => ?_
  subst he
  exact ⟨_, rfl, law_end (tb := 4) Try.laid (by kernel_rfl) rfl Try.underlying4 rfl hW' rfl rfl rfl hw⟩

theorem sensorRepairs_holds : Rows.SensorRepairsSaid :=
  OpenClaim.holds_of_wide 4 Try.f4 rfl rfl rfl rfl rfl rfl rfl ⟨rfl, rfl, rfl, rfl, rfl⟩ rfl rfl rfl rfl rfl (by kernel_rfl) Try.func4 (by kernel_rfl)
    (of_decide_eq_true (by kernel_rfl)) (by unfold Func.isWrapper; first | (rw [if_pos (by decide +kernel)]; kernel_rfl) | (rw [if_neg (by decide +kernel)]; exact ⟨rfl, rfl⟩))
    (fun os started H enc _ => sensorRepairs_lifted os started H enc)
#print axioms sensorRepairs_holds
end Go.Proofs.Ytpmnfhifmmfglaa
