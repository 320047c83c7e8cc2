/-
  No cell of these rows narrows 'for every input' (looked for: loops, veiled, ifaces, maps, wideKeys, modest, calm, conditions, laid).
  DERIVED. THE GIVEN ROWS OF THIS SEAT. 7 by the template 'for every input the law returns true; each argument reads behind the call as it read before'; 0 by the template 'total and deterministic' (their statements: YtpmnfhifmmfglabTotals.lean).
  GIVEN WITH THE SEED: the statements are not yours to turn. If you find one false, say at which input.
  Laid BY PROGRAM, IN A SANDBOX (cutbox-rows.mjs): the forced cells as the released guide's own fill.sh prints them over the translation 1ed5682245b11af1… (all of the seat's roots in one cut). By AI agents, Wed Nov 11 2026. No macro, syntax, notation, axiom, sorry.
-/
import Derived.Test.YtpmnfhifmmfglabChecked
import GoSem.Claim
import GoSem.ClaimJoined
import GoSem.ClaimMapViews
import Derived.JoinedTies
import Derived.KernelRfl
namespace Go.Proofs.Ytpmnfhifmmfglab
/- THE CELL 'sum', in the pinned program and in every row, IS THE sha256 OF THE DUMP (.gsa) THAT YtpmnfhifmmfglabProg.lean LOADS. Nothing in Lean hashes anything: it is a label: what it is worth is what the hold of that sum in a sandbox is worth. -/
noncomputable def Try.pinned : Pinned := { name := "ytpmnfhifmmfglab", sum := "1ed5682245b11af1b0daf9b68c819d353e06a2183dd3792b8e274ba04803b1c3", checked := Try.checked }
namespace Rows
def none {H : Type} : Left H := { results := [], args := [] }

/-- 'darkslidelaw.ToneSharpens': WHATEVER THE INPUT: true; the input reads as it did. -/
def toneSharpensSpec : ChangeSpec := { name := "toneSharpens", fn := fun _ => fun
  | [d1, d2] => { results := [.lit (.bool true)], args := [d1, d2] }
  | _ => none }
def toneSharpensRow : OpenClaim := { program := "ytpmnfhifmmfglab", sum := "1ed5682245b11af1b0daf9b68c819d353e06a2183dd3792b8e274ba04803b1c3", func := "darkslide/darkslidelaw.ToneSharpens", spec := "toneSharpens", unfollowed := true, recurses := true, plainKeys := false, apart := false }
def ToneSharpensSaid : Prop := toneSharpensRow.holds Try.pinned (OpenSpec.ofChange toneSharpensSpec)

/-- ITS FALSE NEIGHBOUR: 'it returns false'. Refute it at one input. -/
def toneSharpensWrong : ChangeSpec := { name := "toneSharpens", fn := fun _ => fun
  | [d1, d2] => { results := [.lit (.bool false)], args := [d1, d2] }
  | _ => none }
def ToneSharpensWrongFalsely : Prop := toneSharpensRow.holds Try.pinned (OpenSpec.ofChange toneSharpensWrong)

/-- 'darkslidelaw.ToneFlat': WHATEVER THE INPUT: true; the input reads as it did. -/
def toneFlatSpec : ChangeSpec := { name := "toneFlat", fn := fun _ => fun
  | [d1, d2, d3, d4, d5] => { results := [.lit (.bool true)], args := [d1, d2, d3, d4, d5] }
  | _ => none }
def toneFlatRow : OpenClaim := { program := "ytpmnfhifmmfglab", sum := "1ed5682245b11af1b0daf9b68c819d353e06a2183dd3792b8e274ba04803b1c3", func := "darkslide/darkslidelaw.ToneFlat", spec := "toneFlat", unfollowed := true, recurses := true, plainKeys := false, apart := false }
def ToneFlatSaid : Prop := toneFlatRow.holds Try.pinned (OpenSpec.ofChange toneFlatSpec)

/-- ITS FALSE NEIGHBOUR: 'it returns false'. Refute it at one input. -/
def toneFlatWrong : ChangeSpec := { name := "toneFlat", fn := fun _ => fun
  | [d1, d2, d3, d4, d5] => { results := [.lit (.bool false)], args := [d1, d2, d3, d4, d5] }
  | _ => none }
def ToneFlatWrongFalsely : Prop := toneFlatRow.holds Try.pinned (OpenSpec.ofChange toneFlatWrong)

/-- 'darkslidelaw.LineWholes': WHATEVER THE INPUT: true; the input reads as it did. -/
def lineWholesSpec : ChangeSpec := { name := "lineWholes", fn := fun _ => fun
  | [d1, d2] => { results := [.lit (.bool true)], args := [d1, d2] }
  | _ => none }
def lineWholesRow : OpenClaim := { program := "ytpmnfhifmmfglab", sum := "1ed5682245b11af1b0daf9b68c819d353e06a2183dd3792b8e274ba04803b1c3", func := "darkslide/darkslidelaw.LineWholes", spec := "lineWholes", unfollowed := true, recurses := true, plainKeys := false, apart := false }
def LineWholesSaid : Prop := lineWholesRow.holds Try.pinned (OpenSpec.ofChange lineWholesSpec)

/-- ITS FALSE NEIGHBOUR: 'it returns false'. Refute it at one input. -/
def lineWholesWrong : ChangeSpec := { name := "lineWholes", fn := fun _ => fun
  | [d1, d2] => { results := [.lit (.bool false)], args := [d1, d2] }
  | _ => none }
def LineWholesWrongFalsely : Prop := lineWholesRow.holds Try.pinned (OpenSpec.ofChange lineWholesWrong)

/-- 'darkslidelaw.LineParts': WHATEVER THE INPUT: true; the input reads as it did. -/
def linePartsSpec : ChangeSpec := { name := "lineParts", fn := fun _ => fun
  | [d1, d2, d3, d4, d5, d6] => { results := [.lit (.bool true)], args := [d1, d2, d3, d4, d5, d6] }
  | _ => none }
def linePartsRow : OpenClaim := { program := "ytpmnfhifmmfglab", sum := "1ed5682245b11af1b0daf9b68c819d353e06a2183dd3792b8e274ba04803b1c3", func := "darkslide/darkslidelaw.LineParts", spec := "lineParts", unfollowed := true, recurses := true, plainKeys := false, apart := false }
def LinePartsSaid : Prop := linePartsRow.holds Try.pinned (OpenSpec.ofChange linePartsSpec)

/-- ITS FALSE NEIGHBOUR: 'it returns false'. Refute it at one input. -/
def linePartsWrong : ChangeSpec := { name := "lineParts", fn := fun _ => fun
  | [d1, d2, d3, d4, d5, d6] => { results := [.lit (.bool false)], args := [d1, d2, d3, d4, d5, d6] }
  | _ => none }
def LinePartsWrongFalsely : Prop := linePartsRow.holds Try.pinned (OpenSpec.ofChange linePartsWrong)

/-- 'darkslidelaw.LineStrips': WHATEVER THE INPUT: true; the input reads as it did. -/
def lineStripsSpec : ChangeSpec := { name := "lineStrips", fn := fun _ => fun
  | [d1, d2, d3] => { results := [.lit (.bool true)], args := [d1, d2, d3] }
  | _ => none }
def lineStripsRow : OpenClaim := { program := "ytpmnfhifmmfglab", sum := "1ed5682245b11af1b0daf9b68c819d353e06a2183dd3792b8e274ba04803b1c3", func := "darkslide/darkslidelaw.LineStrips", spec := "lineStrips", unfollowed := true, recurses := true, plainKeys := false, apart := false }
def LineStripsSaid : Prop := lineStripsRow.holds Try.pinned (OpenSpec.ofChange lineStripsSpec)

/-- ITS FALSE NEIGHBOUR: 'it returns false'. Refute it at one input. -/
def lineStripsWrong : ChangeSpec := { name := "lineStrips", fn := fun _ => fun
  | [d1, d2, d3] => { results := [.lit (.bool false)], args := [d1, d2, d3] }
  | _ => none }
def LineStripsWrongFalsely : Prop := lineStripsRow.holds Try.pinned (OpenSpec.ofChange lineStripsWrong)

/-- 'darkslidelaw.LineAlike': WHATEVER THE INPUT: true; the input reads as it did. -/
def lineAlikeSpec : ChangeSpec := { name := "lineAlike", fn := fun _ => fun
  | [d1, d2, d3, d4] => { results := [.lit (.bool true)], args := [d1, d2, d3, d4] }
  | _ => none }
def lineAlikeRow : OpenClaim := { program := "ytpmnfhifmmfglab", sum := "1ed5682245b11af1b0daf9b68c819d353e06a2183dd3792b8e274ba04803b1c3", func := "darkslide/darkslidelaw.LineAlike", spec := "lineAlike", unfollowed := true, recurses := true, plainKeys := false, apart := false }
def LineAlikeSaid : Prop := lineAlikeRow.holds Try.pinned (OpenSpec.ofChange lineAlikeSpec)

/-- ITS FALSE NEIGHBOUR: 'it returns false'. Refute it at one input. -/
def lineAlikeWrong : ChangeSpec := { name := "lineAlike", fn := fun _ => fun
  | [d1, d2, d3, d4] => { results := [.lit (.bool false)], args := [d1, d2, d3, d4] }
  | _ => none }
def LineAlikeWrongFalsely : Prop := lineAlikeRow.holds Try.pinned (OpenSpec.ofChange lineAlikeWrong)

/-- 'darkslidelaw.LineFar': WHATEVER THE INPUT: true; the input reads as it did. -/
def lineFarSpec : ChangeSpec := { name := "lineFar", fn := fun _ => fun
  | [d1, d2, d3, d4] => { results := [.lit (.bool true)], args := [d1, d2, d3, d4] }
  | _ => none }
def lineFarRow : OpenClaim := { program := "ytpmnfhifmmfglab", sum := "1ed5682245b11af1b0daf9b68c819d353e06a2183dd3792b8e274ba04803b1c3", func := "darkslide/darkslidelaw.LineFar", spec := "lineFar", unfollowed := true, recurses := true, plainKeys := false, apart := false }
def LineFarSaid : Prop := lineFarRow.holds Try.pinned (OpenSpec.ofChange lineFarSpec)

/-- ITS FALSE NEIGHBOUR: 'it returns false'. Refute it at one input. -/
def lineFarWrong : ChangeSpec := { name := "lineFar", fn := fun _ => fun
  | [d1, d2, d3, d4] => { results := [.lit (.bool false)], args := [d1, d2, d3, d4] }
  | _ => none }
def LineFarWrongFalsely : Prop := lineFarRow.holds Try.pinned (OpenSpec.ofChange lineFarWrong)

/- THE SECOND FORM. 'bulk': how many values and letters a reading holds, each counted each time it is reached (what is shared counts as often as it is met; a slice's spare places count too). A statement '..UptoSaid' is the law's where the arguments, and the package variables that the reading takes, are together of bulk at most 1048576: NARROWER than '..Said'. Prove '..Said' where nothing that the law and all that it calls make is longer than what came in: it says more and counts as full. Else prove '..UptoSaid'. A law counts once. -/
mutual
def uptoBulk {H : Type} : DataW H → Nat
  | .lit (.string bytes) => bytes.length + 1
  | .lit _ => 1
  | .nil => 1
  | .ptr d => uptoBulk d + 1
  | .slice elems spare => uptoBulkAll elems + uptoBulkAll spare + 1
  | .agg parts => uptoBulkAll parts + 1
  | .iface _ d => uptoBulk d + 1
  | .map entries => uptoBulkEntries entries + 1
  | .held _ => 1
def uptoBulkAll {H : Type} : List (DataW H) → Nat
  | [] => 0
  | d :: r => uptoBulk d + uptoBulkAll r
def uptoBulkEntries {H : Type} : List (Lit × DataW H) → Nat
  | [] => 0
  | x :: r => uptoBulkEntry x + uptoBulkEntries r
def uptoBulkEntry {H : Type} : Lit × DataW H → Nat
  | (.string bytes, d) => bytes.length + uptoBulk d + 1
  | (_, d) => uptoBulk d + 1
 end
def uptoSmall : (H : Type) → List (DataW H) → Bool := fun _ ds => decide (uptoBulkAll ds ≤ 1048576)
def OpenSpec.upto (s : _root_.Go.ChangeSpec) : _root_.Go.OpenSpec := { _root_.Go.OpenSpec.ofChange s with cond := some uptoSmall }

/-- 'darkslidelaw.ToneSharpens', WHERE WHAT IT READS IS OF BULK AT MOST 1048576: true; the input reads as it did. -/
def toneSharpensUptoRow : OpenClaim := { program := "ytpmnfhifmmfglab", sum := "1ed5682245b11af1b0daf9b68c819d353e06a2183dd3792b8e274ba04803b1c3", func := "darkslide/darkslidelaw.ToneSharpens", spec := "toneSharpens", unfollowed := true, recurses := true, plainKeys := false, apart := false, narrowed := true }
def ToneSharpensUptoSaid : Prop := toneSharpensUptoRow.holds Try.pinned (OpenSpec.upto toneSharpensSpec)

/-- 'darkslidelaw.ToneFlat', WHERE WHAT IT READS IS OF BULK AT MOST 1048576: true; the input reads as it did. -/
def toneFlatUptoRow : OpenClaim := { program := "ytpmnfhifmmfglab", sum := "1ed5682245b11af1b0daf9b68c819d353e06a2183dd3792b8e274ba04803b1c3", func := "darkslide/darkslidelaw.ToneFlat", spec := "toneFlat", unfollowed := true, recurses := true, plainKeys := false, apart := false, narrowed := true }
def ToneFlatUptoSaid : Prop := toneFlatUptoRow.holds Try.pinned (OpenSpec.upto toneFlatSpec)

/-- 'darkslidelaw.LineWholes', WHERE WHAT IT READS IS OF BULK AT MOST 1048576: true; the input reads as it did. -/
def lineWholesUptoRow : OpenClaim := { program := "ytpmnfhifmmfglab", sum := "1ed5682245b11af1b0daf9b68c819d353e06a2183dd3792b8e274ba04803b1c3", func := "darkslide/darkslidelaw.LineWholes", spec := "lineWholes", unfollowed := true, recurses := true, plainKeys := false, apart := false, narrowed := true }
def LineWholesUptoSaid : Prop := lineWholesUptoRow.holds Try.pinned (OpenSpec.upto lineWholesSpec)

/-- 'darkslidelaw.LineParts', WHERE WHAT IT READS IS OF BULK AT MOST 1048576: true; the input reads as it did. -/
def linePartsUptoRow : OpenClaim := { program := "ytpmnfhifmmfglab", sum := "1ed5682245b11af1b0daf9b68c819d353e06a2183dd3792b8e274ba04803b1c3", func := "darkslide/darkslidelaw.LineParts", spec := "lineParts", unfollowed := true, recurses := true, plainKeys := false, apart := false, narrowed := true }
def LinePartsUptoSaid : Prop := linePartsUptoRow.holds Try.pinned (OpenSpec.upto linePartsSpec)

/-- 'darkslidelaw.LineStrips', WHERE WHAT IT READS IS OF BULK AT MOST 1048576: true; the input reads as it did. -/
def lineStripsUptoRow : OpenClaim := { program := "ytpmnfhifmmfglab", sum := "1ed5682245b11af1b0daf9b68c819d353e06a2183dd3792b8e274ba04803b1c3", func := "darkslide/darkslidelaw.LineStrips", spec := "lineStrips", unfollowed := true, recurses := true, plainKeys := false, apart := false, narrowed := true }
def LineStripsUptoSaid : Prop := lineStripsUptoRow.holds Try.pinned (OpenSpec.upto lineStripsSpec)

/-- 'darkslidelaw.LineAlike', WHERE WHAT IT READS IS OF BULK AT MOST 1048576: true; the input reads as it did. -/
def lineAlikeUptoRow : OpenClaim := { program := "ytpmnfhifmmfglab", sum := "1ed5682245b11af1b0daf9b68c819d353e06a2183dd3792b8e274ba04803b1c3", func := "darkslide/darkslidelaw.LineAlike", spec := "lineAlike", unfollowed := true, recurses := true, plainKeys := false, apart := false, narrowed := true }
def LineAlikeUptoSaid : Prop := lineAlikeUptoRow.holds Try.pinned (OpenSpec.upto lineAlikeSpec)

/-- 'darkslidelaw.LineFar', WHERE WHAT IT READS IS OF BULK AT MOST 1048576: true; the input reads as it did. -/
def lineFarUptoRow : OpenClaim := { program := "ytpmnfhifmmfglab", sum := "1ed5682245b11af1b0daf9b68c819d353e06a2183dd3792b8e274ba04803b1c3", func := "darkslide/darkslidelaw.LineFar", spec := "lineFar", unfollowed := true, recurses := true, plainKeys := false, apart := false, narrowed := true }
def LineFarUptoSaid : Prop := lineFarUptoRow.holds Try.pinned (OpenSpec.upto lineFarSpec)

end Rows
end Go.Proofs.Ytpmnfhifmmfglab
