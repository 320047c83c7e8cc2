/-
  No cell of these rows narrows 'for every input' (looked for: loops, veiled, ifaces, maps, wideKeys, modest, calm, conditions, laid).
  DERIVED. THE GIVEN ROWS OF THIS SEAT. 11 by the template 'for every input the law returns true; each argument reads behind the call as it read before'; 0 by the template 'total and deterministic' (their statements: YtpmnfhifmmfglaaTotals.lean).
  GIVEN WITH THE SEED: the statements are not yours to turn. If you find one false, say at which input.
  Laid BY PROGRAM, IN A SANDBOX (cutbox-rows.mjs): the forced cells as the released guide's own fill.sh prints them over the translation 883b2990b5b59da1… (all of the seat's roots in one cut). By AI agents, Wed Nov 11 2026. No macro, syntax, notation, axiom, sorry.
-/
import Derived.Test.YtpmnfhifmmfglaaChecked
import GoSem.Claim
import GoSem.ClaimJoined
import GoSem.ClaimMapViews
import Derived.JoinedTies
import Derived.KernelRfl
namespace Go.Proofs.Ytpmnfhifmmfglaa
/- THE CELL 'sum', in the pinned program and in every row, IS THE sha256 OF THE DUMP (.gsa) THAT YtpmnfhifmmfglaaProg.lean LOADS. Nothing in Lean hashes anything: it is a label: what it is worth is what the hold of that sum in a sandbox is worth. -/
noncomputable def Try.pinned : Pinned := { name := "ytpmnfhifmmfglaa", sum := "883b2990b5b59da1d281cd5f4726cf36d19a442a07957d37d6e193e3ca3b62a0", checked := Try.checked }
namespace Rows
def none {H : Type} : Left H := { results := [], args := [] }

/-- 'darkslidelaw.SensorLevels': WHATEVER THE INPUT: true; the input reads as it did. -/
def sensorLevelsSpec : ChangeSpec := { name := "sensorLevels", fn := fun _ => fun
  | [d1, d2, d3] => { results := [.lit (.bool true)], args := [d1, d2, d3] }
  | _ => none }
def sensorLevelsRow : OpenClaim := { program := "ytpmnfhifmmfglaa", sum := "883b2990b5b59da1d281cd5f4726cf36d19a442a07957d37d6e193e3ca3b62a0", func := "darkslide/darkslidelaw.SensorLevels", spec := "sensorLevels", unfollowed := true, recurses := true, plainKeys := false, apart := false }
def SensorLevelsSaid : Prop := sensorLevelsRow.holds Try.pinned (OpenSpec.ofChange sensorLevelsSpec)

/-- ITS FALSE NEIGHBOUR: 'it returns false'. Refute it at one input. -/
def sensorLevelsWrong : ChangeSpec := { name := "sensorLevels", fn := fun _ => fun
  | [d1, d2, d3] => { results := [.lit (.bool false)], args := [d1, d2, d3] }
  | _ => none }
def SensorLevelsWrongFalsely : Prop := sensorLevelsRow.holds Try.pinned (OpenSpec.ofChange sensorLevelsWrong)

/-- 'darkslidelaw.SensorRepairs': WHATEVER THE INPUT: true; the input reads as it did. -/
def sensorRepairsSpec : ChangeSpec := { name := "sensorRepairs", fn := fun _ => fun
  | [d1, d2] => { results := [.lit (.bool true)], args := [d1, d2] }
  | _ => none }
def sensorRepairsRow : OpenClaim := { program := "ytpmnfhifmmfglaa", sum := "883b2990b5b59da1d281cd5f4726cf36d19a442a07957d37d6e193e3ca3b62a0", func := "darkslide/darkslidelaw.SensorRepairs", spec := "sensorRepairs", unfollowed := true, recurses := true, plainKeys := false, apart := false }
def SensorRepairsSaid : Prop := sensorRepairsRow.holds Try.pinned (OpenSpec.ofChange sensorRepairsSpec)

/-- ITS FALSE NEIGHBOUR: 'it returns false'. Refute it at one input. -/
def sensorRepairsWrong : ChangeSpec := { name := "sensorRepairs", fn := fun _ => fun
  | [d1, d2] => { results := [.lit (.bool false)], args := [d1, d2] }
  | _ => none }
def SensorRepairsWrongFalsely : Prop := sensorRepairsRow.holds Try.pinned (OpenSpec.ofChange sensorRepairsWrong)

/-- 'darkslidelaw.SensorGains': WHATEVER THE INPUT: true; the input reads as it did. -/
def sensorGainsSpec : ChangeSpec := { name := "sensorGains", fn := fun _ => fun
  | [d1, d2, d3, d4, d5] => { results := [.lit (.bool true)], args := [d1, d2, d3, d4, d5] }
  | _ => none }
def sensorGainsRow : OpenClaim := { program := "ytpmnfhifmmfglaa", sum := "883b2990b5b59da1d281cd5f4726cf36d19a442a07957d37d6e193e3ca3b62a0", func := "darkslide/darkslidelaw.SensorGains", spec := "sensorGains", unfollowed := true, recurses := true, plainKeys := false, apart := false }
def SensorGainsSaid : Prop := sensorGainsRow.holds Try.pinned (OpenSpec.ofChange sensorGainsSpec)

/-- ITS FALSE NEIGHBOUR: 'it returns false'. Refute it at one input. -/
def sensorGainsWrong : ChangeSpec := { name := "sensorGains", fn := fun _ => fun
  | [d1, d2, d3, d4, d5] => { results := [.lit (.bool false)], args := [d1, d2, d3, d4, d5] }
  | _ => none }
def SensorGainsWrongFalsely : Prop := sensorGainsRow.holds Try.pinned (OpenSpec.ofChange sensorGainsWrong)

/-- 'darkslidelaw.TurnCuts': WHATEVER THE INPUT: true; the input reads as it did. -/
def turnCutsSpec : ChangeSpec := { name := "turnCuts", fn := fun _ => fun
  | [d1, d2] => { results := [.lit (.bool true)], args := [d1, d2] }
  | _ => none }
def turnCutsRow : OpenClaim := { program := "ytpmnfhifmmfglaa", sum := "883b2990b5b59da1d281cd5f4726cf36d19a442a07957d37d6e193e3ca3b62a0", func := "darkslide/darkslidelaw.TurnCuts", spec := "turnCuts", unfollowed := true, recurses := true, plainKeys := false, apart := false }
def TurnCutsSaid : Prop := turnCutsRow.holds Try.pinned (OpenSpec.ofChange turnCutsSpec)

/-- ITS FALSE NEIGHBOUR: 'it returns false'. Refute it at one input. -/
def turnCutsWrong : ChangeSpec := { name := "turnCuts", fn := fun _ => fun
  | [d1, d2] => { results := [.lit (.bool false)], args := [d1, d2] }
  | _ => none }
def TurnCutsWrongFalsely : Prop := turnCutsRow.holds Try.pinned (OpenSpec.ofChange turnCutsWrong)

/-- 'darkslidelaw.TurnTurns': WHATEVER THE INPUT: true; the input reads as it did. -/
def turnTurnsSpec : ChangeSpec := { name := "turnTurns", fn := fun _ => fun
  | [d1, d2, d3] => { results := [.lit (.bool true)], args := [d1, d2, d3] }
  | _ => none }
def turnTurnsRow : OpenClaim := { program := "ytpmnfhifmmfglaa", sum := "883b2990b5b59da1d281cd5f4726cf36d19a442a07957d37d6e193e3ca3b62a0", func := "darkslide/darkslidelaw.TurnTurns", spec := "turnTurns", unfollowed := true, recurses := true, plainKeys := false, apart := false }
def TurnTurnsSaid : Prop := turnTurnsRow.holds Try.pinned (OpenSpec.ofChange turnTurnsSpec)

/-- ITS FALSE NEIGHBOUR: 'it returns false'. Refute it at one input. -/
def turnTurnsWrong : ChangeSpec := { name := "turnTurns", fn := fun _ => fun
  | [d1, d2, d3] => { results := [.lit (.bool false)], args := [d1, d2, d3] }
  | _ => none }
def TurnTurnsWrongFalsely : Prop := turnTurnsRow.holds Try.pinned (OpenSpec.ofChange turnTurnsWrong)

/-- 'darkslidelaw.TurnBack': WHATEVER THE INPUT: true; the input reads as it did. -/
def turnBackSpec : ChangeSpec := { name := "turnBack", fn := fun _ => fun
  | [d1, d2, d3, d4] => { results := [.lit (.bool true)], args := [d1, d2, d3, d4] }
  | _ => none }
def turnBackRow : OpenClaim := { program := "ytpmnfhifmmfglaa", sum := "883b2990b5b59da1d281cd5f4726cf36d19a442a07957d37d6e193e3ca3b62a0", func := "darkslide/darkslidelaw.TurnBack", spec := "turnBack", unfollowed := true, recurses := true, plainKeys := false, apart := false }
def TurnBackSaid : Prop := turnBackRow.holds Try.pinned (OpenSpec.ofChange turnBackSpec)

/-- ITS FALSE NEIGHBOUR: 'it returns false'. Refute it at one input. -/
def turnBackWrong : ChangeSpec := { name := "turnBack", fn := fun _ => fun
  | [d1, d2, d3, d4] => { results := [.lit (.bool false)], args := [d1, d2, d3, d4] }
  | _ => none }
def TurnBackWrongFalsely : Prop := turnBackRow.holds Try.pinned (OpenSpec.ofChange turnBackWrong)

/-- 'darkslidelaw.MosaicFills': WHATEVER THE INPUT: true; the input reads as it did. -/
def mosaicFillsSpec : ChangeSpec := { name := "mosaicFills", fn := fun _ => fun
  | [d1, d2, d3] => { results := [.lit (.bool true)], args := [d1, d2, d3] }
  | _ => none }
def mosaicFillsRow : OpenClaim := { program := "ytpmnfhifmmfglaa", sum := "883b2990b5b59da1d281cd5f4726cf36d19a442a07957d37d6e193e3ca3b62a0", func := "darkslide/darkslidelaw.MosaicFills", spec := "mosaicFills", unfollowed := true, recurses := true, plainKeys := false, apart := false }
def MosaicFillsSaid : Prop := mosaicFillsRow.holds Try.pinned (OpenSpec.ofChange mosaicFillsSpec)

/-- ITS FALSE NEIGHBOUR: 'it returns false'. Refute it at one input. -/
def mosaicFillsWrong : ChangeSpec := { name := "mosaicFills", fn := fun _ => fun
  | [d1, d2, d3] => { results := [.lit (.bool false)], args := [d1, d2, d3] }
  | _ => none }
def MosaicFillsWrongFalsely : Prop := mosaicFillsRow.holds Try.pinned (OpenSpec.ofChange mosaicFillsWrong)

/-- 'darkslidelaw.MosaicKeeps': WHATEVER THE INPUT: true; the input reads as it did. -/
def mosaicKeepsSpec : ChangeSpec := { name := "mosaicKeeps", fn := fun _ => fun
  | [d1, d2, d3] => { results := [.lit (.bool true)], args := [d1, d2, d3] }
  | _ => none }
def mosaicKeepsRow : OpenClaim := { program := "ytpmnfhifmmfglaa", sum := "883b2990b5b59da1d281cd5f4726cf36d19a442a07957d37d6e193e3ca3b62a0", func := "darkslide/darkslidelaw.MosaicKeeps", spec := "mosaicKeeps", unfollowed := true, recurses := true, plainKeys := false, apart := false }
def MosaicKeepsSaid : Prop := mosaicKeepsRow.holds Try.pinned (OpenSpec.ofChange mosaicKeepsSpec)

/-- ITS FALSE NEIGHBOUR: 'it returns false'. Refute it at one input. -/
def mosaicKeepsWrong : ChangeSpec := { name := "mosaicKeeps", fn := fun _ => fun
  | [d1, d2, d3] => { results := [.lit (.bool false)], args := [d1, d2, d3] }
  | _ => none }
def MosaicKeepsWrongFalsely : Prop := mosaicKeepsRow.holds Try.pinned (OpenSpec.ofChange mosaicKeepsWrong)

/-- 'darkslidelaw.ToneMixes': WHATEVER THE INPUT: true; the input reads as it did. -/
def toneMixesSpec : ChangeSpec := { name := "toneMixes", fn := fun _ => fun
  | [d1, d2] => { results := [.lit (.bool true)], args := [d1, d2] }
  | _ => none }
def toneMixesRow : OpenClaim := { program := "ytpmnfhifmmfglaa", sum := "883b2990b5b59da1d281cd5f4726cf36d19a442a07957d37d6e193e3ca3b62a0", func := "darkslide/darkslidelaw.ToneMixes", spec := "toneMixes", unfollowed := true, recurses := true, plainKeys := false, apart := false }
def ToneMixesSaid : Prop := toneMixesRow.holds Try.pinned (OpenSpec.ofChange toneMixesSpec)

/-- ITS FALSE NEIGHBOUR: 'it returns false'. Refute it at one input. -/
def toneMixesWrong : ChangeSpec := { name := "toneMixes", fn := fun _ => fun
  | [d1, d2] => { results := [.lit (.bool false)], args := [d1, d2] }
  | _ => none }
def ToneMixesWrongFalsely : Prop := toneMixesRow.holds Try.pinned (OpenSpec.ofChange toneMixesWrong)

/-- 'darkslidelaw.ToneBends': WHATEVER THE INPUT: true; the input reads as it did. -/
def toneBendsSpec : ChangeSpec := { name := "toneBends", fn := fun _ => fun
  | [d1, d2, d3] => { results := [.lit (.bool true)], args := [d1, d2, d3] }
  | _ => none }
def toneBendsRow : OpenClaim := { program := "ytpmnfhifmmfglaa", sum := "883b2990b5b59da1d281cd5f4726cf36d19a442a07957d37d6e193e3ca3b62a0", func := "darkslide/darkslidelaw.ToneBends", spec := "toneBends", unfollowed := true, recurses := true, plainKeys := false, apart := false }
def ToneBendsSaid : Prop := toneBendsRow.holds Try.pinned (OpenSpec.ofChange toneBendsSpec)

/-- ITS FALSE NEIGHBOUR: 'it returns false'. Refute it at one input. -/
def toneBendsWrong : ChangeSpec := { name := "toneBends", fn := fun _ => fun
  | [d1, d2, d3] => { results := [.lit (.bool false)], args := [d1, d2, d3] }
  | _ => none }
def ToneBendsWrongFalsely : Prop := toneBendsRow.holds Try.pinned (OpenSpec.ofChange toneBendsWrong)

/-- 'darkslidelaw.ToneRises': WHATEVER THE INPUT: true; the input reads as it did. -/
def toneRisesSpec : ChangeSpec := { name := "toneRises", fn := fun _ => fun
  | [d1, d2, d3, d4] => { results := [.lit (.bool true)], args := [d1, d2, d3, d4] }
  | _ => none }
def toneRisesRow : OpenClaim := { program := "ytpmnfhifmmfglaa", sum := "883b2990b5b59da1d281cd5f4726cf36d19a442a07957d37d6e193e3ca3b62a0", func := "darkslide/darkslidelaw.ToneRises", spec := "toneRises", unfollowed := true, recurses := true, plainKeys := false, apart := false }
def ToneRisesSaid : Prop := toneRisesRow.holds Try.pinned (OpenSpec.ofChange toneRisesSpec)

/-- ITS FALSE NEIGHBOUR: 'it returns false'. Refute it at one input. -/
def toneRisesWrong : ChangeSpec := { name := "toneRises", fn := fun _ => fun
  | [d1, d2, d3, d4] => { results := [.lit (.bool false)], args := [d1, d2, d3, d4] }
  | _ => none }
def ToneRisesWrongFalsely : Prop := toneRisesRow.holds Try.pinned (OpenSpec.ofChange toneRisesWrong)

/- THE SECOND FORM. 'bulk': how many values and letters a reading holds, each counted each time it is reached (what is shared counts as often as it is met; a slice's spare places count too). A statement '..UptoSaid' is the law's where the arguments, and the package variables that the reading takes, are together of bulk at most 1048576: NARROWER than '..Said'. Prove '..Said' where nothing that the law and all that it calls make is longer than what came in: it says more and counts as full. Else prove '..UptoSaid'. A law counts once. -/
mutual
def uptoBulk {H : Type} : DataW H → Nat
  | .lit (.string bytes) => bytes.length + 1
  | .lit _ => 1
  | .nil => 1
  | .ptr d => uptoBulk d + 1
  | .slice elems spare => uptoBulkAll elems + uptoBulkAll spare + 1
  | .agg parts => uptoBulkAll parts + 1
  | .iface _ d => uptoBulk d + 1
  | .map entries => uptoBulkEntries entries + 1
  | .held _ => 1
def uptoBulkAll {H : Type} : List (DataW H) → Nat
  | [] => 0
  | d :: r => uptoBulk d + uptoBulkAll r
def uptoBulkEntries {H : Type} : List (Lit × DataW H) → Nat
  | [] => 0
  | x :: r => uptoBulkEntry x + uptoBulkEntries r
def uptoBulkEntry {H : Type} : Lit × DataW H → Nat
  | (.string bytes, d) => bytes.length + uptoBulk d + 1
  | (_, d) => uptoBulk d + 1
 end
def uptoSmall : (H : Type) → List (DataW H) → Bool := fun _ ds => decide (uptoBulkAll ds ≤ 1048576)
def OpenSpec.upto (s : _root_.Go.ChangeSpec) : _root_.Go.OpenSpec := { _root_.Go.OpenSpec.ofChange s with cond := some uptoSmall }

/-- 'darkslidelaw.SensorLevels', WHERE WHAT IT READS IS OF BULK AT MOST 1048576: true; the input reads as it did. -/
def sensorLevelsUptoRow : OpenClaim := { program := "ytpmnfhifmmfglaa", sum := "883b2990b5b59da1d281cd5f4726cf36d19a442a07957d37d6e193e3ca3b62a0", func := "darkslide/darkslidelaw.SensorLevels", spec := "sensorLevels", unfollowed := true, recurses := true, plainKeys := false, apart := false, narrowed := true }
def SensorLevelsUptoSaid : Prop := sensorLevelsUptoRow.holds Try.pinned (OpenSpec.upto sensorLevelsSpec)

/-- 'darkslidelaw.SensorRepairs', WHERE WHAT IT READS IS OF BULK AT MOST 1048576: true; the input reads as it did. -/
def sensorRepairsUptoRow : OpenClaim := { program := "ytpmnfhifmmfglaa", sum := "883b2990b5b59da1d281cd5f4726cf36d19a442a07957d37d6e193e3ca3b62a0", func := "darkslide/darkslidelaw.SensorRepairs", spec := "sensorRepairs", unfollowed := true, recurses := true, plainKeys := false, apart := false, narrowed := true }
def SensorRepairsUptoSaid : Prop := sensorRepairsUptoRow.holds Try.pinned (OpenSpec.upto sensorRepairsSpec)

/-- 'darkslidelaw.SensorGains', WHERE WHAT IT READS IS OF BULK AT MOST 1048576: true; the input reads as it did. -/
def sensorGainsUptoRow : OpenClaim := { program := "ytpmnfhifmmfglaa", sum := "883b2990b5b59da1d281cd5f4726cf36d19a442a07957d37d6e193e3ca3b62a0", func := "darkslide/darkslidelaw.SensorGains", spec := "sensorGains", unfollowed := true, recurses := true, plainKeys := false, apart := false, narrowed := true }
def SensorGainsUptoSaid : Prop := sensorGainsUptoRow.holds Try.pinned (OpenSpec.upto sensorGainsSpec)

/-- 'darkslidelaw.TurnCuts', WHERE WHAT IT READS IS OF BULK AT MOST 1048576: true; the input reads as it did. -/
def turnCutsUptoRow : OpenClaim := { program := "ytpmnfhifmmfglaa", sum := "883b2990b5b59da1d281cd5f4726cf36d19a442a07957d37d6e193e3ca3b62a0", func := "darkslide/darkslidelaw.TurnCuts", spec := "turnCuts", unfollowed := true, recurses := true, plainKeys := false, apart := false, narrowed := true }
def TurnCutsUptoSaid : Prop := turnCutsUptoRow.holds Try.pinned (OpenSpec.upto turnCutsSpec)

/-- 'darkslidelaw.TurnTurns', WHERE WHAT IT READS IS OF BULK AT MOST 1048576: true; the input reads as it did. -/
def turnTurnsUptoRow : OpenClaim := { program := "ytpmnfhifmmfglaa", sum := "883b2990b5b59da1d281cd5f4726cf36d19a442a07957d37d6e193e3ca3b62a0", func := "darkslide/darkslidelaw.TurnTurns", spec := "turnTurns", unfollowed := true, recurses := true, plainKeys := false, apart := false, narrowed := true }
def TurnTurnsUptoSaid : Prop := turnTurnsUptoRow.holds Try.pinned (OpenSpec.upto turnTurnsSpec)

/-- 'darkslidelaw.TurnBack', WHERE WHAT IT READS IS OF BULK AT MOST 1048576: true; the input reads as it did. -/
def turnBackUptoRow : OpenClaim := { program := "ytpmnfhifmmfglaa", sum := "883b2990b5b59da1d281cd5f4726cf36d19a442a07957d37d6e193e3ca3b62a0", func := "darkslide/darkslidelaw.TurnBack", spec := "turnBack", unfollowed := true, recurses := true, plainKeys := false, apart := false, narrowed := true }
def TurnBackUptoSaid : Prop := turnBackUptoRow.holds Try.pinned (OpenSpec.upto turnBackSpec)

/-- 'darkslidelaw.MosaicFills', WHERE WHAT IT READS IS OF BULK AT MOST 1048576: true; the input reads as it did. -/
def mosaicFillsUptoRow : OpenClaim := { program := "ytpmnfhifmmfglaa", sum := "883b2990b5b59da1d281cd5f4726cf36d19a442a07957d37d6e193e3ca3b62a0", func := "darkslide/darkslidelaw.MosaicFills", spec := "mosaicFills", unfollowed := true, recurses := true, plainKeys := false, apart := false, narrowed := true }
def MosaicFillsUptoSaid : Prop := mosaicFillsUptoRow.holds Try.pinned (OpenSpec.upto mosaicFillsSpec)

/-- 'darkslidelaw.MosaicKeeps', WHERE WHAT IT READS IS OF BULK AT MOST 1048576: true; the input reads as it did. -/
def mosaicKeepsUptoRow : OpenClaim := { program := "ytpmnfhifmmfglaa", sum := "883b2990b5b59da1d281cd5f4726cf36d19a442a07957d37d6e193e3ca3b62a0", func := "darkslide/darkslidelaw.MosaicKeeps", spec := "mosaicKeeps", unfollowed := true, recurses := true, plainKeys := false, apart := false, narrowed := true }
def MosaicKeepsUptoSaid : Prop := mosaicKeepsUptoRow.holds Try.pinned (OpenSpec.upto mosaicKeepsSpec)

/-- 'darkslidelaw.ToneMixes', WHERE WHAT IT READS IS OF BULK AT MOST 1048576: true; the input reads as it did. -/
def toneMixesUptoRow : OpenClaim := { program := "ytpmnfhifmmfglaa", sum := "883b2990b5b59da1d281cd5f4726cf36d19a442a07957d37d6e193e3ca3b62a0", func := "darkslide/darkslidelaw.ToneMixes", spec := "toneMixes", unfollowed := true, recurses := true, plainKeys := false, apart := false, narrowed := true }
def ToneMixesUptoSaid : Prop := toneMixesUptoRow.holds Try.pinned (OpenSpec.upto toneMixesSpec)

/-- 'darkslidelaw.ToneBends', WHERE WHAT IT READS IS OF BULK AT MOST 1048576: true; the input reads as it did. -/
def toneBendsUptoRow : OpenClaim := { program := "ytpmnfhifmmfglaa", sum := "883b2990b5b59da1d281cd5f4726cf36d19a442a07957d37d6e193e3ca3b62a0", func := "darkslide/darkslidelaw.ToneBends", spec := "toneBends", unfollowed := true, recurses := true, plainKeys := false, apart := false, narrowed := true }
def ToneBendsUptoSaid : Prop := toneBendsUptoRow.holds Try.pinned (OpenSpec.upto toneBendsSpec)

/-- 'darkslidelaw.ToneRises', WHERE WHAT IT READS IS OF BULK AT MOST 1048576: true; the input reads as it did. -/
def toneRisesUptoRow : OpenClaim := { program := "ytpmnfhifmmfglaa", sum := "883b2990b5b59da1d281cd5f4726cf36d19a442a07957d37d6e193e3ca3b62a0", func := "darkslide/darkslidelaw.ToneRises", spec := "toneRises", unfollowed := true, recurses := true, plainKeys := false, apart := false, narrowed := true }
def ToneRisesUptoSaid : Prop := toneRisesUptoRow.holds Try.pinned (OpenSpec.upto toneRisesSpec)

end Rows
end Go.Proofs.Ytpmnfhifmmfglaa
