/-
  No cell of these rows narrows 'for every input' (looked for: loops, veiled, ifaces, maps, wideKeys, modest, calm, conditions, laid).
  DERIVED. THE GIVEN ROWS OF THIS SEAT. 8 by the template 'for every input the law returns true; each argument reads behind the call as it read before'; 0 by the template 'total and deterministic' (their statements: YtdjpocnijfhcgaaTotals.lean).
  GIVEN WITH THE SEED: the statements are not yours to turn. If you find one false, say at which input.
  Laid BY PROGRAM, IN A SANDBOX (cutbox-rows.mjs): the forced cells as the released guide's own fill.sh prints them over the translation b13a4119327e83d3… (all of the seat's roots in one cut). By AI agents, Wed Nov 11 2026. No macro, syntax, notation, axiom, sorry.
-/
import Derived.Test.YtdjpocnijfhcgaaChecked
import GoSem.Claim
import GoSem.ClaimJoined
import GoSem.ClaimMapViews
import Derived.JoinedTies
import Derived.KernelRfl
namespace Go.Proofs.Ytdjpocnijfhcgaa
/- THE CELL 'sum', in the pinned program and in every row, IS THE sha256 OF THE DUMP (.gsa) THAT YtdjpocnijfhcgaaProg.lean LOADS. Nothing in Lean hashes anything: it is a label: what it is worth is what the hold of that sum in a sandbox is worth. -/
noncomputable def Try.pinned : Pinned := { name := "ytdjpocnijfhcgaa", sum := "b13a4119327e83d3781bdbe505f6e99b663e1f71f2be576e4e6e10e51e914925", checked := Try.checked }
namespace Rows
def none {H : Type} : Left H := { results := [], args := [] }

/-- 'weirgatelaw01.TallySums': WHATEVER THE INPUT: true; the input reads as it did. -/
def tallySumsSpec : ChangeSpec := { name := "tallySums", fn := fun _ => fun
  | [d1, d2] => { results := [.lit (.bool true)], args := [d1, d2] }
  | _ => none }
def tallySumsRow : OpenClaim := { program := "ytdjpocnijfhcgaa", sum := "b13a4119327e83d3781bdbe505f6e99b663e1f71f2be576e4e6e10e51e914925", func := "weirgate/weirgatelaw01.TallySums", spec := "tallySums", apart := false }
def TallySumsSaid : Prop := tallySumsRow.holds Try.pinned (OpenSpec.ofChange tallySumsSpec)

/-- ITS FALSE NEIGHBOUR: 'it returns false'. Refute it at one input. -/
def tallySumsWrong : ChangeSpec := { name := "tallySums", fn := fun _ => fun
  | [d1, d2] => { results := [.lit (.bool false)], args := [d1, d2] }
  | _ => none }
def TallySumsWrongFalsely : Prop := tallySumsRow.holds Try.pinned (OpenSpec.ofChange tallySumsWrong)

/-- 'weirgatelaw01.TallyParts': WHATEVER THE INPUT: true; the input reads as it did. -/
def tallyPartsSpec : ChangeSpec := { name := "tallyParts", fn := fun _ => fun
  | [d1, d2] => { results := [.lit (.bool true)], args := [d1, d2] }
  | _ => none }
def tallyPartsRow : OpenClaim := { program := "ytdjpocnijfhcgaa", sum := "b13a4119327e83d3781bdbe505f6e99b663e1f71f2be576e4e6e10e51e914925", func := "weirgate/weirgatelaw01.TallyParts", spec := "tallyParts", apart := false }
def TallyPartsSaid : Prop := tallyPartsRow.holds Try.pinned (OpenSpec.ofChange tallyPartsSpec)

/-- ITS FALSE NEIGHBOUR: 'it returns false'. Refute it at one input. -/
def tallyPartsWrong : ChangeSpec := { name := "tallyParts", fn := fun _ => fun
  | [d1, d2] => { results := [.lit (.bool false)], args := [d1, d2] }
  | _ => none }
def TallyPartsWrongFalsely : Prop := tallyPartsRow.holds Try.pinned (OpenSpec.ofChange tallyPartsWrong)

/-- 'weirgatelaw01.TallyTurns': WHATEVER THE INPUT: true; the input reads as it did. -/
def tallyTurnsSpec : ChangeSpec := { name := "tallyTurns", fn := fun _ => fun
  | [d1, d2, d3] => { results := [.lit (.bool true)], args := [d1, d2, d3] }
  | _ => none }
def tallyTurnsRow : OpenClaim := { program := "ytdjpocnijfhcgaa", sum := "b13a4119327e83d3781bdbe505f6e99b663e1f71f2be576e4e6e10e51e914925", func := "weirgate/weirgatelaw01.TallyTurns", spec := "tallyTurns", apart := false }
def TallyTurnsSaid : Prop := tallyTurnsRow.holds Try.pinned (OpenSpec.ofChange tallyTurnsSpec)

/-- ITS FALSE NEIGHBOUR: 'it returns false'. Refute it at one input. -/
def tallyTurnsWrong : ChangeSpec := { name := "tallyTurns", fn := fun _ => fun
  | [d1, d2, d3] => { results := [.lit (.bool false)], args := [d1, d2, d3] }
  | _ => none }
def TallyTurnsWrongFalsely : Prop := tallyTurnsRow.holds Try.pinned (OpenSpec.ofChange tallyTurnsWrong)

/-- 'weirgatelaw01.TallyEmpty': WHATEVER THE INPUT: true; the input reads as it did. -/
def tallyEmptySpec : ChangeSpec := { name := "tallyEmpty", fn := fun _ => fun
  | [d1, d2] => { results := [.lit (.bool true)], args := [d1, d2] }
  | _ => none }
def tallyEmptyRow : OpenClaim := { program := "ytdjpocnijfhcgaa", sum := "b13a4119327e83d3781bdbe505f6e99b663e1f71f2be576e4e6e10e51e914925", func := "weirgate/weirgatelaw01.TallyEmpty", spec := "tallyEmpty", apart := false }
def TallyEmptySaid : Prop := tallyEmptyRow.holds Try.pinned (OpenSpec.ofChange tallyEmptySpec)

/-- ITS FALSE NEIGHBOUR: 'it returns false'. Refute it at one input. -/
def tallyEmptyWrong : ChangeSpec := { name := "tallyEmpty", fn := fun _ => fun
  | [d1, d2] => { results := [.lit (.bool false)], args := [d1, d2] }
  | _ => none }
def TallyEmptyWrongFalsely : Prop := tallyEmptyRow.holds Try.pinned (OpenSpec.ofChange tallyEmptyWrong)

/-- 'weirgatelaw26.WireOnce': WHATEVER THE INPUT: true; the input reads as it did. -/
def wireOnceSpec : ChangeSpec := { name := "wireOnce", fn := fun _ => fun
  | [d1, d2, d3] => { results := [.lit (.bool true)], args := [d1, d2, d3] }
  | _ => none }
def wireOnceRow : OpenClaim := { program := "ytdjpocnijfhcgaa", sum := "b13a4119327e83d3781bdbe505f6e99b663e1f71f2be576e4e6e10e51e914925", func := "weirgate/weirgatelaw26.WireOnce", spec := "wireOnce", apart := false }
def WireOnceSaid : Prop := wireOnceRow.holds Try.pinned (OpenSpec.ofChange wireOnceSpec)

/-- ITS FALSE NEIGHBOUR: 'it returns false'. Refute it at one input. -/
def wireOnceWrong : ChangeSpec := { name := "wireOnce", fn := fun _ => fun
  | [d1, d2, d3] => { results := [.lit (.bool false)], args := [d1, d2, d3] }
  | _ => none }
def WireOnceWrongFalsely : Prop := wireOnceRow.holds Try.pinned (OpenSpec.ofChange wireOnceWrong)

/-- 'weirgatelaw26.WireParts': WHATEVER THE INPUT: true; the input reads as it did. -/
def wirePartsSpec : ChangeSpec := { name := "wireParts", fn := fun _ => fun
  | [d1, d2, d3] => { results := [.lit (.bool true)], args := [d1, d2, d3] }
  | _ => none }
def wirePartsRow : OpenClaim := { program := "ytdjpocnijfhcgaa", sum := "b13a4119327e83d3781bdbe505f6e99b663e1f71f2be576e4e6e10e51e914925", func := "weirgate/weirgatelaw26.WireParts", spec := "wireParts", apart := false }
def WirePartsSaid : Prop := wirePartsRow.holds Try.pinned (OpenSpec.ofChange wirePartsSpec)

/-- ITS FALSE NEIGHBOUR: 'it returns false'. Refute it at one input. -/
def wirePartsWrong : ChangeSpec := { name := "wireParts", fn := fun _ => fun
  | [d1, d2, d3] => { results := [.lit (.bool false)], args := [d1, d2, d3] }
  | _ => none }
def WirePartsWrongFalsely : Prop := wirePartsRow.holds Try.pinned (OpenSpec.ofChange wirePartsWrong)

/-- 'weirgatelaw26.WirePlays': WHATEVER THE INPUT: true; the input reads as it did. -/
def wirePlaysSpec : ChangeSpec := { name := "wirePlays", fn := fun _ => fun
  | [d] => { results := [.lit (.bool true)], args := [d] }
  | _ => none }
def wirePlaysRow : OpenClaim := { program := "ytdjpocnijfhcgaa", sum := "b13a4119327e83d3781bdbe505f6e99b663e1f71f2be576e4e6e10e51e914925", func := "weirgate/weirgatelaw26.WirePlays", spec := "wirePlays", apart := false }
def WirePlaysSaid : Prop := wirePlaysRow.holds Try.pinned (OpenSpec.ofChange wirePlaysSpec)

/-- ITS FALSE NEIGHBOUR: 'it returns false'. Refute it at one input. -/
def wirePlaysWrong : ChangeSpec := { name := "wirePlays", fn := fun _ => fun
  | [d] => { results := [.lit (.bool false)], args := [d] }
  | _ => none }
def WirePlaysWrongFalsely : Prop := wirePlaysRow.holds Try.pinned (OpenSpec.ofChange wirePlaysWrong)

/-- 'weirgatelaw26.WireNone': WHATEVER THE INPUT: true; the input reads as it did. -/
def wireNoneSpec : ChangeSpec := { name := "wireNone", fn := fun _ => fun
  | [d] => { results := [.lit (.bool true)], args := [d] }
  | _ => none }
def wireNoneRow : OpenClaim := { program := "ytdjpocnijfhcgaa", sum := "b13a4119327e83d3781bdbe505f6e99b663e1f71f2be576e4e6e10e51e914925", func := "weirgate/weirgatelaw26.WireNone", spec := "wireNone", apart := false }
def WireNoneSaid : Prop := wireNoneRow.holds Try.pinned (OpenSpec.ofChange wireNoneSpec)

/-- ITS FALSE NEIGHBOUR: 'it returns false'. Refute it at one input. -/
def wireNoneWrong : ChangeSpec := { name := "wireNone", fn := fun _ => fun
  | [d] => { results := [.lit (.bool false)], args := [d] }
  | _ => none }
def WireNoneWrongFalsely : Prop := wireNoneRow.holds Try.pinned (OpenSpec.ofChange wireNoneWrong)

/- THE SECOND FORM. 'bulk': how many values and letters a reading holds, each counted each time it is reached (what is shared counts as often as it is met; a slice's spare places count too). A statement '..UptoSaid' is the law's where the arguments, and the package variables that the reading takes, are together of bulk at most 1048576: NARROWER than '..Said'. Prove '..Said' where nothing that the law and all that it calls make is longer than what came in: it says more and counts as full. Else prove '..UptoSaid'. A law counts once. -/
mutual
def uptoBulk {H : Type} : DataW H → Nat
  | .lit (.string bytes) => bytes.length + 1
  | .lit _ => 1
  | .nil => 1
  | .ptr d => uptoBulk d + 1
  | .slice elems spare => uptoBulkAll elems + uptoBulkAll spare + 1
  | .agg parts => uptoBulkAll parts + 1
  | .iface _ d => uptoBulk d + 1
  | .map entries => uptoBulkEntries entries + 1
  | .held _ => 1
def uptoBulkAll {H : Type} : List (DataW H) → Nat
  | [] => 0
  | d :: r => uptoBulk d + uptoBulkAll r
def uptoBulkEntries {H : Type} : List (Lit × DataW H) → Nat
  | [] => 0
  | x :: r => uptoBulkEntry x + uptoBulkEntries r
def uptoBulkEntry {H : Type} : Lit × DataW H → Nat
  | (.string bytes, d) => bytes.length + uptoBulk d + 1
  | (_, d) => uptoBulk d + 1
 end
def uptoSmall : (H : Type) → List (DataW H) → Bool := fun _ ds => decide (uptoBulkAll ds ≤ 1048576)
def OpenSpec.upto (s : _root_.Go.ChangeSpec) : _root_.Go.OpenSpec := { _root_.Go.OpenSpec.ofChange s with cond := some uptoSmall }

/-- 'weirgatelaw01.TallySums', WHERE WHAT IT READS IS OF BULK AT MOST 1048576: true; the input reads as it did. -/
def tallySumsUptoRow : OpenClaim := { program := "ytdjpocnijfhcgaa", sum := "b13a4119327e83d3781bdbe505f6e99b663e1f71f2be576e4e6e10e51e914925", func := "weirgate/weirgatelaw01.TallySums", spec := "tallySums", apart := false, narrowed := true }
def TallySumsUptoSaid : Prop := tallySumsUptoRow.holds Try.pinned (OpenSpec.upto tallySumsSpec)

/-- 'weirgatelaw01.TallyParts', WHERE WHAT IT READS IS OF BULK AT MOST 1048576: true; the input reads as it did. -/
def tallyPartsUptoRow : OpenClaim := { program := "ytdjpocnijfhcgaa", sum := "b13a4119327e83d3781bdbe505f6e99b663e1f71f2be576e4e6e10e51e914925", func := "weirgate/weirgatelaw01.TallyParts", spec := "tallyParts", apart := false, narrowed := true }
def TallyPartsUptoSaid : Prop := tallyPartsUptoRow.holds Try.pinned (OpenSpec.upto tallyPartsSpec)

/-- 'weirgatelaw01.TallyTurns', WHERE WHAT IT READS IS OF BULK AT MOST 1048576: true; the input reads as it did. -/
def tallyTurnsUptoRow : OpenClaim := { program := "ytdjpocnijfhcgaa", sum := "b13a4119327e83d3781bdbe505f6e99b663e1f71f2be576e4e6e10e51e914925", func := "weirgate/weirgatelaw01.TallyTurns", spec := "tallyTurns", apart := false, narrowed := true }
def TallyTurnsUptoSaid : Prop := tallyTurnsUptoRow.holds Try.pinned (OpenSpec.upto tallyTurnsSpec)

/-- 'weirgatelaw01.TallyEmpty', WHERE WHAT IT READS IS OF BULK AT MOST 1048576: true; the input reads as it did. -/
def tallyEmptyUptoRow : OpenClaim := { program := "ytdjpocnijfhcgaa", sum := "b13a4119327e83d3781bdbe505f6e99b663e1f71f2be576e4e6e10e51e914925", func := "weirgate/weirgatelaw01.TallyEmpty", spec := "tallyEmpty", apart := false, narrowed := true }
def TallyEmptyUptoSaid : Prop := tallyEmptyUptoRow.holds Try.pinned (OpenSpec.upto tallyEmptySpec)

/-- 'weirgatelaw26.WireOnce', WHERE WHAT IT READS IS OF BULK AT MOST 1048576: true; the input reads as it did. -/
def wireOnceUptoRow : OpenClaim := { program := "ytdjpocnijfhcgaa", sum := "b13a4119327e83d3781bdbe505f6e99b663e1f71f2be576e4e6e10e51e914925", func := "weirgate/weirgatelaw26.WireOnce", spec := "wireOnce", apart := false, narrowed := true }
def WireOnceUptoSaid : Prop := wireOnceUptoRow.holds Try.pinned (OpenSpec.upto wireOnceSpec)

/-- 'weirgatelaw26.WireParts', WHERE WHAT IT READS IS OF BULK AT MOST 1048576: true; the input reads as it did. -/
def wirePartsUptoRow : OpenClaim := { program := "ytdjpocnijfhcgaa", sum := "b13a4119327e83d3781bdbe505f6e99b663e1f71f2be576e4e6e10e51e914925", func := "weirgate/weirgatelaw26.WireParts", spec := "wireParts", apart := false, narrowed := true }
def WirePartsUptoSaid : Prop := wirePartsUptoRow.holds Try.pinned (OpenSpec.upto wirePartsSpec)

/-- 'weirgatelaw26.WirePlays', WHERE WHAT IT READS IS OF BULK AT MOST 1048576: true; the input reads as it did. -/
def wirePlaysUptoRow : OpenClaim := { program := "ytdjpocnijfhcgaa", sum := "b13a4119327e83d3781bdbe505f6e99b663e1f71f2be576e4e6e10e51e914925", func := "weirgate/weirgatelaw26.WirePlays", spec := "wirePlays", apart := false, narrowed := true }
def WirePlaysUptoSaid : Prop := wirePlaysUptoRow.holds Try.pinned (OpenSpec.upto wirePlaysSpec)

/-- 'weirgatelaw26.WireNone', WHERE WHAT IT READS IS OF BULK AT MOST 1048576: true; the input reads as it did. -/
def wireNoneUptoRow : OpenClaim := { program := "ytdjpocnijfhcgaa", sum := "b13a4119327e83d3781bdbe505f6e99b663e1f71f2be576e4e6e10e51e914925", func := "weirgate/weirgatelaw26.WireNone", spec := "wireNone", apart := false, narrowed := true }
def WireNoneUptoSaid : Prop := wireNoneUptoRow.holds Try.pinned (OpenSpec.upto wireNoneSpec)

end Rows
end Go.Proofs.Ytdjpocnijfhcgaa
