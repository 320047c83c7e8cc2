/- Texts of the claim ShotBack, joined and made small by a program. -/
import Derived.Recover
import Derived.Test.YtpmnfhifmmfglaaGreatDoorShotBackK6
import Derived.Test.YtpmnfhifmmfglaaGreatDoorShotBackK7
set_option linter.unusedVariables false
set_option linter.unusedSimpArgs false
set_option linter.unusedSectionVars false
set_option maxRecDepth 100000
set_option maxHeartbeats 8000000
namespace Go.Proofs.YtpmnfhifmmfglaaGreatDoor
section
open Go.RowKit
theorem G1 {gr ge : Nat} (w : World) :
  CallsD Tryz.prog 57 #[.pointer (some ⟨gr, 0, none⟩), .pointer (some ⟨ge, 0, none⟩)] .returning w fun e u' w' => e = .returned (.tuple #[]) ∧ u' = .returning ∧ w' = w := by
 refine callsD_of_wpS Tryz.func57 rfl fun c₀ cs hu => ?_
 apply wpS_seq
 apply wpS_region
 simp [wpOpsS, go_sem, recoverD, hu, Tryz.ntmps57, Exit.thenS]
 refine wpS_cond (t := false) (by simp [Act.eval, Array.replicate]) ?_;simp only [Bool.false_eq_true, if_false];refine wpS_of_wp (wp_skip ?_);cases c₀
 simp_all [bodyPostS, results, Tryz.results57]
theorem cE {gr ge base : Nat} {W w : World} {cs : List Value} (M : Mem base W w [.blk gr 68 cs, .blk ge 25 [.int .i64 0]]) (hcs : cs.length = 28) :
  CallsD Tryz.prog 57 #[.pointer (some ⟨gr, 0, none⟩), .pointer (some ⟨ge, 0, none⟩)] (.panicking [{ v := .iface 125 (.agg #[]), recovered := false }]) w fun e u' w' =>
   e = .returned (.tuple #[]) ∧ u' = .panicking [{ v := .iface 125 (.agg #[]), recovered := true }] ∧ Mem base W w' [.blk gr 68 [.int .i64 0, .int .i64 0, .int .i64 0, .int .i64 0, .int .i64 0, .slice none 0 0, .slice none 0 0, .int .i64 0, .int .i64 0, .int .i64 0, .int .i64 0, .int .i64 0, .int .i64 0, .slice none 0 0, .int .i64 0, .int .i64 0, .int .i64 0, .int .i64 0, .int .i64 0, .int .i64 0, .int .i64 0, .int .i64 0, .int .i64 0, .int .i64 0, .int .i64 0, .int .i64 0, .slice none 0 0, .int .i64 0], .blk ge 25 [.int .i64 1]] := by
 refine callsD_of_wpS Tryz.func57 rfl fun c₀ cs₀ hu => ?_
 apply wpS_seq
 apply wpS_region
 simp [wpOpsS, go_sem, recoverD, hu, Tryz.ntmps57, Exit.thenS]
 refine wpS_cond (t := true) (by simp [Act.eval, Array.replicate]) ?_;simp only [if_true];refine wpS_of_wp ?_
 generalize hA : (Act.mk _ _ : Act) = a
 have K : Kn a 5 [(0, .pointer (some ⟨gr, 0, none⟩)), (1, .pointer (some ⟨ge, 0, none⟩))] := by
  subst hA;refine ⟨rfl, by simp, fun s v hs => ?_⟩
  rcases s with _ | _ | s
  ·cases hs; rfl
  ·cases hs; rfl
  ·cases hs
 refine aB ?_;refine QB K (aC rfl) rfl rfl (aM rfl K (vs := []) (cs := [.int .i64 0, .int .i64 0, .int .i64 0, .int .i64 0, .int .i64 0, .slice none 0 0, .slice none 0 0, .int .i64 0, .int .i64 0, .int .i64 0, .int .i64 0, .int .i64 0, .int .i64 0, .slice none 0 0, .int .i64 0, .int .i64 0, .int .i64 0, .int .i64 0, .int .i64 0, .int .i64 0, .int .i64 0, .int .i64 0, .int .i64 0, .int .i64 0, .int .i64 0, .int .i64 0, .slice none 0 0, .int .i64 0]) rfl (by kernel_rfl)) M ?_; clear K; intro a K;refine Tl K (aC rfl) rfl (aF rfl mL K rfl (ds := [.int .i64 0, .int .i64 0, .int .i64 0, .int .i64 0, .int .i64 0, .slice none 0 0, .slice none 0 0, .int .i64 0, .int .i64 0, .int .i64 0, .int .i64 0, .int .i64 0, .int .i64 0, .slice none 0 0, .int .i64 0, .int .i64 0, .int .i64 0, .int .i64 0, .int .i64 0, .int .i64 0, .int .i64 0, .int .i64 0, .int .i64 0, .int .i64 0, .int .i64 0, .int .i64 0, .slice none 0 0, .int .i64 0]) rfl rfl 0 M rfl rfl hcs) ?_;clear K M; rintro _ a w M K;refine Tl K (aC rfl) rfl (aR rfl tK K rfl rfl rfl 1 M rfl rfl) ?_;clear K M; rintro _ a w M K;refine wpList_nil ?_;cases c₀
 simp_all [bodyPostS, results, Tryz.results57, K.defs]
end
end Go.Proofs.YtpmnfhifmmfglaaGreatDoor
