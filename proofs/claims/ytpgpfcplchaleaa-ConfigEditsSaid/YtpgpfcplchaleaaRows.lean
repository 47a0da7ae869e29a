/-
  No cell of these rows narrows 'for every input' (looked for: loops, veiled, ifaces, maps, wideKeys, modest, calm, conditions, laid).
  DERIVED. THE GIVEN ROWS OF THIS SEAT. 12 by the template 'for every input the law returns true; each argument reads behind the call as it read before'; 0 by the template 'total and deterministic' (their statements: YtpgpfcplchaleaaTotals.lean).
  GIVEN WITH THE SEED: the statements are not yours to turn. If you find one false, say at which input.
  Laid BY PROGRAM, IN A SANDBOX (cutbox-rows.mjs): the forced cells as the released guide's own fill.sh prints them over the translation b60fe9ab8b3a6b7c… (all of the seat's roots in one cut). By AI agents, Wed Nov 11 2026. No macro, syntax, notation, axiom, sorry.
-/
import Derived.Test.YtpgpfcplchaleaaChecked
import GoSem.Claim
import GoSem.ClaimJoined
import GoSem.ClaimMapViews
import Derived.JoinedTies
import Derived.KernelRfl
namespace Go.Proofs.Ytpgpfcplchaleaa
/- THE CELL 'sum', in the pinned program and in every row, IS THE sha256 OF THE DUMP (.gsa) THAT YtpgpfcplchaleaaProg.lean LOADS. Nothing in Lean hashes anything: it is a label: what it is worth is what the hold of that sum in a sandbox is worth. -/
noncomputable def Try.pinned : Pinned := { name := "ytpgpfcplchaleaa", sum := "b60fe9ab8b3a6b7c8298b4f7b7f8f0098a49442383c5b4d672f48e2ddb9b2531", checked := Try.checked }
namespace Rows
def none {H : Type} : Left H := { results := [], args := [] }

/-- 'weirgatelaw06.CodecOwn': WHATEVER THE INPUT: true; the input reads as it did. -/
def codecOwnSpec : ChangeSpec := { name := "codecOwn", fn := fun _ => fun
  | [d1, d2, d3] => { results := [.lit (.bool true)], args := [d1, d2, d3] }
  | _ => none }
def codecOwnRow : OpenClaim := { program := "ytpgpfcplchaleaa", sum := "b60fe9ab8b3a6b7c8298b4f7b7f8f0098a49442383c5b4d672f48e2ddb9b2531", func := "weirgate/weirgatelaw06.CodecOwn", spec := "codecOwn", unfollowed := true, recurses := true, apart := false }
def CodecOwnSaid : Prop := codecOwnRow.holds Try.pinned (OpenSpec.ofChange codecOwnSpec)

/-- ITS FALSE NEIGHBOUR: 'it returns false'. Refute it at one input. -/
def codecOwnWrong : ChangeSpec := { name := "codecOwn", fn := fun _ => fun
  | [d1, d2, d3] => { results := [.lit (.bool false)], args := [d1, d2, d3] }
  | _ => none }
def CodecOwnWrongFalsely : Prop := codecOwnRow.holds Try.pinned (OpenSpec.ofChange codecOwnWrong)

/-- 'weirgatelaw06.CodecSizes': WHATEVER THE INPUT: true; the input reads as it did. -/
def codecSizesSpec : ChangeSpec := { name := "codecSizes", fn := fun _ => fun
  | [d1, d2] => { results := [.lit (.bool true)], args := [d1, d2] }
  | _ => none }
def codecSizesRow : OpenClaim := { program := "ytpgpfcplchaleaa", sum := "b60fe9ab8b3a6b7c8298b4f7b7f8f0098a49442383c5b4d672f48e2ddb9b2531", func := "weirgate/weirgatelaw06.CodecSizes", spec := "codecSizes", unfollowed := true, recurses := true, apart := false }
def CodecSizesSaid : Prop := codecSizesRow.holds Try.pinned (OpenSpec.ofChange codecSizesSpec)

/-- ITS FALSE NEIGHBOUR: 'it returns false'. Refute it at one input. -/
def codecSizesWrong : ChangeSpec := { name := "codecSizes", fn := fun _ => fun
  | [d1, d2] => { results := [.lit (.bool false)], args := [d1, d2] }
  | _ => none }
def CodecSizesWrongFalsely : Prop := codecSizesRow.holds Try.pinned (OpenSpec.ofChange codecSizesWrong)

/-- 'weirgatelaw06.CodecEdits': WHATEVER THE INPUT: true; the input reads as it did. -/
def codecEditsSpec : ChangeSpec := { name := "codecEdits", fn := fun _ => fun
  | [d1, d2] => { results := [.lit (.bool true)], args := [d1, d2] }
  | _ => none }
def codecEditsRow : OpenClaim := { program := "ytpgpfcplchaleaa", sum := "b60fe9ab8b3a6b7c8298b4f7b7f8f0098a49442383c5b4d672f48e2ddb9b2531", func := "weirgate/weirgatelaw06.CodecEdits", spec := "codecEdits", unfollowed := true, recurses := true, apart := false }
def CodecEditsSaid : Prop := codecEditsRow.holds Try.pinned (OpenSpec.ofChange codecEditsSpec)

/-- ITS FALSE NEIGHBOUR: 'it returns false'. Refute it at one input. -/
def codecEditsWrong : ChangeSpec := { name := "codecEdits", fn := fun _ => fun
  | [d1, d2] => { results := [.lit (.bool false)], args := [d1, d2] }
  | _ => none }
def CodecEditsWrongFalsely : Prop := codecEditsRow.holds Try.pinned (OpenSpec.ofChange codecEditsWrong)

/-- 'weirgatelaw06.CodecConfigs': WHATEVER THE INPUT: true; the input reads as it did. -/
def codecConfigsSpec : ChangeSpec := { name := "codecConfigs", fn := fun _ => fun
  | [d1, d2] => { results := [.lit (.bool true)], args := [d1, d2] }
  | _ => none }
def codecConfigsRow : OpenClaim := { program := "ytpgpfcplchaleaa", sum := "b60fe9ab8b3a6b7c8298b4f7b7f8f0098a49442383c5b4d672f48e2ddb9b2531", func := "weirgate/weirgatelaw06.CodecConfigs", spec := "codecConfigs", unfollowed := true, recurses := true, apart := false }
def CodecConfigsSaid : Prop := codecConfigsRow.holds Try.pinned (OpenSpec.ofChange codecConfigsSpec)

/-- ITS FALSE NEIGHBOUR: 'it returns false'. Refute it at one input. -/
def codecConfigsWrong : ChangeSpec := { name := "codecConfigs", fn := fun _ => fun
  | [d1, d2] => { results := [.lit (.bool false)], args := [d1, d2] }
  | _ => none }
def CodecConfigsWrongFalsely : Prop := codecConfigsRow.holds Try.pinned (OpenSpec.ofChange codecConfigsWrong)

/-- 'weirgatelaw06.CodecBack': WHATEVER THE INPUT: true; the input reads as it did. -/
def codecBackSpec : ChangeSpec := { name := "codecBack", fn := fun _ => fun
  | [d1, d2, d3] => { results := [.lit (.bool true)], args := [d1, d2, d3] }
  | _ => none }
def codecBackRow : OpenClaim := { program := "ytpgpfcplchaleaa", sum := "b60fe9ab8b3a6b7c8298b4f7b7f8f0098a49442383c5b4d672f48e2ddb9b2531", func := "weirgate/weirgatelaw06.CodecBack", spec := "codecBack", unfollowed := true, recurses := true, apart := false }
def CodecBackSaid : Prop := codecBackRow.holds Try.pinned (OpenSpec.ofChange codecBackSpec)

/-- ITS FALSE NEIGHBOUR: 'it returns false'. Refute it at one input. -/
def codecBackWrong : ChangeSpec := { name := "codecBack", fn := fun _ => fun
  | [d1, d2, d3] => { results := [.lit (.bool false)], args := [d1, d2, d3] }
  | _ => none }
def CodecBackWrongFalsely : Prop := codecBackRow.holds Try.pinned (OpenSpec.ofChange codecBackWrong)

/-- 'weirgatelaw05.ConfigMay': WHATEVER THE INPUT: true; the input reads as it did. -/
def configMaySpec : ChangeSpec := { name := "configMay", fn := fun _ => fun
  | [d1, d2, d3] => { results := [.lit (.bool true)], args := [d1, d2, d3] }
  | _ => none }
def configMayRow : OpenClaim := { program := "ytpgpfcplchaleaa", sum := "b60fe9ab8b3a6b7c8298b4f7b7f8f0098a49442383c5b4d672f48e2ddb9b2531", func := "weirgate/weirgatelaw05.ConfigMay", spec := "configMay", inPlace := ["slices.overlaps[weirgate/api.Vlan]", "slices.overlaps[weirgate/api.Static]"], unfollowed := true, recurses := true, apart := false }
def ConfigMaySaid : Prop := configMayRow.holds Try.pinned (OpenSpec.ofChange configMaySpec)

/-- ITS FALSE NEIGHBOUR: 'it returns false'. Refute it at one input. -/
def configMayWrong : ChangeSpec := { name := "configMay", fn := fun _ => fun
  | [d1, d2, d3] => { results := [.lit (.bool false)], args := [d1, d2, d3] }
  | _ => none }
def ConfigMayWrongFalsely : Prop := configMayRow.holds Try.pinned (OpenSpec.ofChange configMayWrong)

/-- 'weirgatelaw05.ConfigEdits': WHATEVER THE INPUT: true; the input reads as it did. -/
def configEditsSpec : ChangeSpec := { name := "configEdits", fn := fun _ => fun
  | [d1, d2] => { results := [.lit (.bool true)], args := [d1, d2] }
  | _ => none }
def configEditsRow : OpenClaim := { program := "ytpgpfcplchaleaa", sum := "b60fe9ab8b3a6b7c8298b4f7b7f8f0098a49442383c5b4d672f48e2ddb9b2531", func := "weirgate/weirgatelaw05.ConfigEdits", spec := "configEdits", inPlace := ["slices.overlaps[weirgate/api.Vlan]", "slices.overlaps[weirgate/api.Static]"], unfollowed := true, recurses := true, apart := false }
def ConfigEditsSaid : Prop := configEditsRow.holds Try.pinned (OpenSpec.ofChange configEditsSpec)

/-- ITS FALSE NEIGHBOUR: 'it returns false'. Refute it at one input. -/
def configEditsWrong : ChangeSpec := { name := "configEdits", fn := fun _ => fun
  | [d1, d2] => { results := [.lit (.bool false)], args := [d1, d2] }
  | _ => none }
def ConfigEditsWrongFalsely : Prop := configEditsRow.holds Try.pinned (OpenSpec.ofChange configEditsWrong)

/-- 'weirgatelaw05.ConfigStays': WHATEVER THE INPUT: true; the input reads as it did. -/
def configStaysSpec : ChangeSpec := { name := "configStays", fn := fun _ => fun
  | [d1, d2, d3] => { results := [.lit (.bool true)], args := [d1, d2, d3] }
  | _ => none }
def configStaysRow : OpenClaim := { program := "ytpgpfcplchaleaa", sum := "b60fe9ab8b3a6b7c8298b4f7b7f8f0098a49442383c5b4d672f48e2ddb9b2531", func := "weirgate/weirgatelaw05.ConfigStays", spec := "configStays", inPlace := ["slices.overlaps[weirgate/api.Vlan]", "slices.overlaps[weirgate/api.Static]"], unfollowed := true, recurses := true, apart := false }
def ConfigStaysSaid : Prop := configStaysRow.holds Try.pinned (OpenSpec.ofChange configStaysSpec)

/-- ITS FALSE NEIGHBOUR: 'it returns false'. Refute it at one input. -/
def configStaysWrong : ChangeSpec := { name := "configStays", fn := fun _ => fun
  | [d1, d2, d3] => { results := [.lit (.bool false)], args := [d1, d2, d3] }
  | _ => none }
def ConfigStaysWrongFalsely : Prop := configStaysRow.holds Try.pinned (OpenSpec.ofChange configStaysWrong)

/-- 'weirgatelaw05.ConfigOwn': WHATEVER THE INPUT: true; the input reads as it did. -/
def configOwnSpec : ChangeSpec := { name := "configOwn", fn := fun _ => fun
  | [d] => { results := [.lit (.bool true)], args := [d] }
  | _ => none }
def configOwnRow : OpenClaim := { program := "ytpgpfcplchaleaa", sum := "b60fe9ab8b3a6b7c8298b4f7b7f8f0098a49442383c5b4d672f48e2ddb9b2531", func := "weirgate/weirgatelaw05.ConfigOwn", spec := "configOwn", inPlace := ["slices.overlaps[weirgate/api.Vlan]", "slices.overlaps[weirgate/api.Static]"], unfollowed := true, recurses := true, apart := false }
def ConfigOwnSaid : Prop := configOwnRow.holds Try.pinned (OpenSpec.ofChange configOwnSpec)

/-- ITS FALSE NEIGHBOUR: 'it returns false'. Refute it at one input. -/
def configOwnWrong : ChangeSpec := { name := "configOwn", fn := fun _ => fun
  | [d] => { results := [.lit (.bool false)], args := [d] }
  | _ => none }
def ConfigOwnWrongFalsely : Prop := configOwnRow.holds Try.pinned (OpenSpec.ofChange configOwnWrong)

/-- 'weirgatelaw05.ConfigSorts': WHATEVER THE INPUT: true; the input reads as it did. -/
def configSortsSpec : ChangeSpec := { name := "configSorts", fn := fun _ => fun
  | [d1, d2] => { results := [.lit (.bool true)], args := [d1, d2] }
  | _ => none }
def configSortsRow : OpenClaim := { program := "ytpgpfcplchaleaa", sum := "b60fe9ab8b3a6b7c8298b4f7b7f8f0098a49442383c5b4d672f48e2ddb9b2531", func := "weirgate/weirgatelaw05.ConfigSorts", spec := "configSorts", inPlace := ["slices.overlaps[weirgate/api.Vlan]", "slices.overlaps[weirgate/api.Static]"], unfollowed := true, recurses := true, apart := false }
def ConfigSortsSaid : Prop := configSortsRow.holds Try.pinned (OpenSpec.ofChange configSortsSpec)

/-- ITS FALSE NEIGHBOUR: 'it returns false'. Refute it at one input. -/
def configSortsWrong : ChangeSpec := { name := "configSorts", fn := fun _ => fun
  | [d1, d2] => { results := [.lit (.bool false)], args := [d1, d2] }
  | _ => none }
def ConfigSortsWrongFalsely : Prop := configSortsRow.holds Try.pinned (OpenSpec.ofChange configSortsWrong)

/-- 'weirgatelaw05.ConfigLimits': WHATEVER THE INPUT: true; the input reads as it did. -/
def configLimitsSpec : ChangeSpec := { name := "configLimits", fn := fun _ => fun
  | [d1, d2] => { results := [.lit (.bool true)], args := [d1, d2] }
  | _ => none }
def configLimitsRow : OpenClaim := { program := "ytpgpfcplchaleaa", sum := "b60fe9ab8b3a6b7c8298b4f7b7f8f0098a49442383c5b4d672f48e2ddb9b2531", func := "weirgate/weirgatelaw05.ConfigLimits", spec := "configLimits", inPlace := ["slices.overlaps[weirgate/api.Vlan]", "slices.overlaps[weirgate/api.Static]"], unfollowed := true, recurses := true, apart := false }
def ConfigLimitsSaid : Prop := configLimitsRow.holds Try.pinned (OpenSpec.ofChange configLimitsSpec)

/-- ITS FALSE NEIGHBOUR: 'it returns false'. Refute it at one input. -/
def configLimitsWrong : ChangeSpec := { name := "configLimits", fn := fun _ => fun
  | [d1, d2] => { results := [.lit (.bool false)], args := [d1, d2] }
  | _ => none }
def ConfigLimitsWrongFalsely : Prop := configLimitsRow.holds Try.pinned (OpenSpec.ofChange configLimitsWrong)

/-- 'weirgatelaw05.ConfigUndoes': WHATEVER THE INPUT: true; the input reads as it did. -/
def configUndoesSpec : ChangeSpec := { name := "configUndoes", fn := fun _ => fun
  | [d1, d2, d3] => { results := [.lit (.bool true)], args := [d1, d2, d3] }
  | _ => none }
def configUndoesRow : OpenClaim := { program := "ytpgpfcplchaleaa", sum := "b60fe9ab8b3a6b7c8298b4f7b7f8f0098a49442383c5b4d672f48e2ddb9b2531", func := "weirgate/weirgatelaw05.ConfigUndoes", spec := "configUndoes", inPlace := ["slices.overlaps[weirgate/api.Vlan]", "slices.overlaps[weirgate/api.Static]"], unfollowed := true, recurses := true, apart := false }
def ConfigUndoesSaid : Prop := configUndoesRow.holds Try.pinned (OpenSpec.ofChange configUndoesSpec)

/-- ITS FALSE NEIGHBOUR: 'it returns false'. Refute it at one input. -/
def configUndoesWrong : ChangeSpec := { name := "configUndoes", fn := fun _ => fun
  | [d1, d2, d3] => { results := [.lit (.bool false)], args := [d1, d2, d3] }
  | _ => none }
def ConfigUndoesWrongFalsely : Prop := configUndoesRow.holds Try.pinned (OpenSpec.ofChange configUndoesWrong)

/- THE SECOND FORM. 'bulk': how many values and letters a reading holds, each counted each time it is reached (what is shared counts as often as it is met; a slice's spare places count too). A statement '..UptoSaid' is the law's where the arguments, and the package variables that the reading takes, are together of bulk at most 1048576: NARROWER than '..Said'. Prove '..Said' where nothing that the law and all that it calls make is longer than what came in: it says more and counts as full. Else prove '..UptoSaid'. A law counts once. -/
mutual
def uptoBulk {H : Type} : DataW H → Nat
  | .lit (.string bytes) => bytes.length + 1
  | .lit _ => 1
  | .nil => 1
  | .ptr d => uptoBulk d + 1
  | .slice elems spare => uptoBulkAll elems + uptoBulkAll spare + 1
  | .agg parts => uptoBulkAll parts + 1
  | .iface _ d => uptoBulk d + 1
  | .map entries => uptoBulkEntries entries + 1
  | .held _ => 1
def uptoBulkAll {H : Type} : List (DataW H) → Nat
  | [] => 0
  | d :: r => uptoBulk d + uptoBulkAll r
def uptoBulkEntries {H : Type} : List (Lit × DataW H) → Nat
  | [] => 0
  | x :: r => uptoBulkEntry x + uptoBulkEntries r
def uptoBulkEntry {H : Type} : Lit × DataW H → Nat
  | (.string bytes, d) => bytes.length + uptoBulk d + 1
  | (_, d) => uptoBulk d + 1
 end
def uptoSmall : (H : Type) → List (DataW H) → Bool := fun _ ds => decide (uptoBulkAll ds ≤ 1048576)
def OpenSpec.upto (s : _root_.Go.ChangeSpec) : _root_.Go.OpenSpec := { _root_.Go.OpenSpec.ofChange s with cond := some uptoSmall }

/-- 'weirgatelaw06.CodecOwn', WHERE WHAT IT READS IS OF BULK AT MOST 1048576: true; the input reads as it did. -/
def codecOwnUptoRow : OpenClaim := { program := "ytpgpfcplchaleaa", sum := "b60fe9ab8b3a6b7c8298b4f7b7f8f0098a49442383c5b4d672f48e2ddb9b2531", func := "weirgate/weirgatelaw06.CodecOwn", spec := "codecOwn", unfollowed := true, recurses := true, apart := false, narrowed := true }
def CodecOwnUptoSaid : Prop := codecOwnUptoRow.holds Try.pinned (OpenSpec.upto codecOwnSpec)

/-- 'weirgatelaw06.CodecSizes', WHERE WHAT IT READS IS OF BULK AT MOST 1048576: true; the input reads as it did. -/
def codecSizesUptoRow : OpenClaim := { program := "ytpgpfcplchaleaa", sum := "b60fe9ab8b3a6b7c8298b4f7b7f8f0098a49442383c5b4d672f48e2ddb9b2531", func := "weirgate/weirgatelaw06.CodecSizes", spec := "codecSizes", unfollowed := true, recurses := true, apart := false, narrowed := true }
def CodecSizesUptoSaid : Prop := codecSizesUptoRow.holds Try.pinned (OpenSpec.upto codecSizesSpec)

/-- 'weirgatelaw06.CodecEdits', WHERE WHAT IT READS IS OF BULK AT MOST 1048576: true; the input reads as it did. -/
def codecEditsUptoRow : OpenClaim := { program := "ytpgpfcplchaleaa", sum := "b60fe9ab8b3a6b7c8298b4f7b7f8f0098a49442383c5b4d672f48e2ddb9b2531", func := "weirgate/weirgatelaw06.CodecEdits", spec := "codecEdits", unfollowed := true, recurses := true, apart := false, narrowed := true }
def CodecEditsUptoSaid : Prop := codecEditsUptoRow.holds Try.pinned (OpenSpec.upto codecEditsSpec)

/-- 'weirgatelaw06.CodecConfigs', WHERE WHAT IT READS IS OF BULK AT MOST 1048576: true; the input reads as it did. -/
def codecConfigsUptoRow : OpenClaim := { program := "ytpgpfcplchaleaa", sum := "b60fe9ab8b3a6b7c8298b4f7b7f8f0098a49442383c5b4d672f48e2ddb9b2531", func := "weirgate/weirgatelaw06.CodecConfigs", spec := "codecConfigs", unfollowed := true, recurses := true, apart := false, narrowed := true }
def CodecConfigsUptoSaid : Prop := codecConfigsUptoRow.holds Try.pinned (OpenSpec.upto codecConfigsSpec)

/-- 'weirgatelaw06.CodecBack', WHERE WHAT IT READS IS OF BULK AT MOST 1048576: true; the input reads as it did. -/
def codecBackUptoRow : OpenClaim := { program := "ytpgpfcplchaleaa", sum := "b60fe9ab8b3a6b7c8298b4f7b7f8f0098a49442383c5b4d672f48e2ddb9b2531", func := "weirgate/weirgatelaw06.CodecBack", spec := "codecBack", unfollowed := true, recurses := true, apart := false, narrowed := true }
def CodecBackUptoSaid : Prop := codecBackUptoRow.holds Try.pinned (OpenSpec.upto codecBackSpec)

/-- 'weirgatelaw05.ConfigMay', WHERE WHAT IT READS IS OF BULK AT MOST 1048576: true; the input reads as it did. -/
def configMayUptoRow : OpenClaim := { program := "ytpgpfcplchaleaa", sum := "b60fe9ab8b3a6b7c8298b4f7b7f8f0098a49442383c5b4d672f48e2ddb9b2531", func := "weirgate/weirgatelaw05.ConfigMay", spec := "configMay", inPlace := ["slices.overlaps[weirgate/api.Vlan]", "slices.overlaps[weirgate/api.Static]"], unfollowed := true, recurses := true, apart := false, narrowed := true }
def ConfigMayUptoSaid : Prop := configMayUptoRow.holds Try.pinned (OpenSpec.upto configMaySpec)

/-- 'weirgatelaw05.ConfigEdits', WHERE WHAT IT READS IS OF BULK AT MOST 1048576: true; the input reads as it did. -/
def configEditsUptoRow : OpenClaim := { program := "ytpgpfcplchaleaa", sum := "b60fe9ab8b3a6b7c8298b4f7b7f8f0098a49442383c5b4d672f48e2ddb9b2531", func := "weirgate/weirgatelaw05.ConfigEdits", spec := "configEdits", inPlace := ["slices.overlaps[weirgate/api.Vlan]", "slices.overlaps[weirgate/api.Static]"], unfollowed := true, recurses := true, apart := false, narrowed := true }
def ConfigEditsUptoSaid : Prop := configEditsUptoRow.holds Try.pinned (OpenSpec.upto configEditsSpec)

/-- 'weirgatelaw05.ConfigStays', WHERE WHAT IT READS IS OF BULK AT MOST 1048576: true; the input reads as it did. -/
def configStaysUptoRow : OpenClaim := { program := "ytpgpfcplchaleaa", sum := "b60fe9ab8b3a6b7c8298b4f7b7f8f0098a49442383c5b4d672f48e2ddb9b2531", func := "weirgate/weirgatelaw05.ConfigStays", spec := "configStays", inPlace := ["slices.overlaps[weirgate/api.Vlan]", "slices.overlaps[weirgate/api.Static]"], unfollowed := true, recurses := true, apart := false, narrowed := true }
def ConfigStaysUptoSaid : Prop := configStaysUptoRow.holds Try.pinned (OpenSpec.upto configStaysSpec)

/-- 'weirgatelaw05.ConfigOwn', WHERE WHAT IT READS IS OF BULK AT MOST 1048576: true; the input reads as it did. -/
def configOwnUptoRow : OpenClaim := { program := "ytpgpfcplchaleaa", sum := "b60fe9ab8b3a6b7c8298b4f7b7f8f0098a49442383c5b4d672f48e2ddb9b2531", func := "weirgate/weirgatelaw05.ConfigOwn", spec := "configOwn", inPlace := ["slices.overlaps[weirgate/api.Vlan]", "slices.overlaps[weirgate/api.Static]"], unfollowed := true, recurses := true, apart := false, narrowed := true }
def ConfigOwnUptoSaid : Prop := configOwnUptoRow.holds Try.pinned (OpenSpec.upto configOwnSpec)

/-- 'weirgatelaw05.ConfigSorts', WHERE WHAT IT READS IS OF BULK AT MOST 1048576: true; the input reads as it did. -/
def configSortsUptoRow : OpenClaim := { program := "ytpgpfcplchaleaa", sum := "b60fe9ab8b3a6b7c8298b4f7b7f8f0098a49442383c5b4d672f48e2ddb9b2531", func := "weirgate/weirgatelaw05.ConfigSorts", spec := "configSorts", inPlace := ["slices.overlaps[weirgate/api.Vlan]", "slices.overlaps[weirgate/api.Static]"], unfollowed := true, recurses := true, apart := false, narrowed := true }
def ConfigSortsUptoSaid : Prop := configSortsUptoRow.holds Try.pinned (OpenSpec.upto configSortsSpec)

/-- 'weirgatelaw05.ConfigLimits', WHERE WHAT IT READS IS OF BULK AT MOST 1048576: true; the input reads as it did. -/
def configLimitsUptoRow : OpenClaim := { program := "ytpgpfcplchaleaa", sum := "b60fe9ab8b3a6b7c8298b4f7b7f8f0098a49442383c5b4d672f48e2ddb9b2531", func := "weirgate/weirgatelaw05.ConfigLimits", spec := "configLimits", inPlace := ["slices.overlaps[weirgate/api.Vlan]", "slices.overlaps[weirgate/api.Static]"], unfollowed := true, recurses := true, apart := false, narrowed := true }
def ConfigLimitsUptoSaid : Prop := configLimitsUptoRow.holds Try.pinned (OpenSpec.upto configLimitsSpec)

/-- 'weirgatelaw05.ConfigUndoes', WHERE WHAT IT READS IS OF BULK AT MOST 1048576: true; the input reads as it did. -/
def configUndoesUptoRow : OpenClaim := { program := "ytpgpfcplchaleaa", sum := "b60fe9ab8b3a6b7c8298b4f7b7f8f0098a49442383c5b4d672f48e2ddb9b2531", func := "weirgate/weirgatelaw05.ConfigUndoes", spec := "configUndoes", inPlace := ["slices.overlaps[weirgate/api.Vlan]", "slices.overlaps[weirgate/api.Static]"], unfollowed := true, recurses := true, apart := false, narrowed := true }
def ConfigUndoesUptoSaid : Prop := configUndoesUptoRow.holds Try.pinned (OpenSpec.upto configUndoesSpec)

end Rows
end Go.Proofs.Ytpgpfcplchaleaa
