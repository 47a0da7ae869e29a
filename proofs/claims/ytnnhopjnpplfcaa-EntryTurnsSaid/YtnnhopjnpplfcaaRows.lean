/-
  No cell of these rows narrows 'for every input' (looked for: loops, veiled, ifaces, maps, wideKeys, modest, calm, conditions, laid).
  DERIVED. THE GIVEN ROWS OF THIS SEAT. 8 by the template 'for every input the law returns true; each argument reads behind the call as it read before'; 0 by the template 'total and deterministic' (their statements: YtnnhopjnpplfcaaTotals.lean).
  GIVEN WITH THE SEED: the statements are not yours to turn. If you find one false, say at which input.
  Laid BY PROGRAM, IN A SANDBOX (cutbox-rows.mjs): the forced cells as the released guide's own fill.sh prints them over the translation f1e25c6aa9544f51… (all of the seat's roots in one cut). By AI agents, Wed Nov 11 2026. No macro, syntax, notation, axiom, sorry.
-/
import Derived.Test.YtnnhopjnpplfcaaChecked
import GoSem.Claim
import GoSem.ClaimJoined
import GoSem.ClaimMapViews
import Derived.JoinedTies
import Derived.KernelRfl
namespace Go.Proofs.Ytnnhopjnpplfcaa
/- THE CELL 'sum', in the pinned program and in every row, IS THE sha256 OF THE DUMP (.gsa) THAT YtnnhopjnpplfcaaProg.lean LOADS. Nothing in Lean hashes anything: it is a label: what it is worth is what the hold of that sum in a sandbox is worth. -/
noncomputable def Try.pinned : Pinned := { name := "ytnnhopjnpplfcaa", sum := "f1e25c6aa9544f51afdcb2fbac63120d2ae3e3c4077c878735ebf0c47f474c35", checked := Try.checked }
namespace Rows
def none {H : Type} : Left H := { results := [], args := [] }

/-- 'weirgatelaw02.SectorLast': WHATEVER THE INPUT: true; the input reads as it did. -/
def sectorLastSpec : ChangeSpec := { name := "sectorLast", fn := fun _ => fun
  | [d1, d2, d3] => { results := [.lit (.bool true)], args := [d1, d2, d3] }
  | _ => none }
def sectorLastRow : OpenClaim := { program := "ytnnhopjnpplfcaa", sum := "f1e25c6aa9544f51afdcb2fbac63120d2ae3e3c4077c878735ebf0c47f474c35", func := "weirgate/weirgatelaw02.SectorLast", spec := "sectorLast", unfollowed := true, recurses := true, apart := false }
def SectorLastSaid : Prop := sectorLastRow.holds Try.pinned (OpenSpec.ofChange sectorLastSpec)

/-- ITS FALSE NEIGHBOUR: 'it returns false'. Refute it at one input. -/
def sectorLastWrong : ChangeSpec := { name := "sectorLast", fn := fun _ => fun
  | [d1, d2, d3] => { results := [.lit (.bool false)], args := [d1, d2, d3] }
  | _ => none }
def SectorLastWrongFalsely : Prop := sectorLastRow.holds Try.pinned (OpenSpec.ofChange sectorLastWrong)

/-- 'weirgatelaw02.SectorPlays': WHATEVER THE INPUT: true; the input reads as it did. -/
def sectorPlaysSpec : ChangeSpec := { name := "sectorPlays", fn := fun _ => fun
  | [d1, d2] => { results := [.lit (.bool true)], args := [d1, d2] }
  | _ => none }
def sectorPlaysRow : OpenClaim := { program := "ytnnhopjnpplfcaa", sum := "f1e25c6aa9544f51afdcb2fbac63120d2ae3e3c4077c878735ebf0c47f474c35", func := "weirgate/weirgatelaw02.SectorPlays", spec := "sectorPlays", unfollowed := true, recurses := true, apart := false }
def SectorPlaysSaid : Prop := sectorPlaysRow.holds Try.pinned (OpenSpec.ofChange sectorPlaysSpec)

/-- ITS FALSE NEIGHBOUR: 'it returns false'. Refute it at one input. -/
def sectorPlaysWrong : ChangeSpec := { name := "sectorPlays", fn := fun _ => fun
  | [d1, d2] => { results := [.lit (.bool false)], args := [d1, d2] }
  | _ => none }
def SectorPlaysWrongFalsely : Prop := sectorPlaysRow.holds Try.pinned (OpenSpec.ofChange sectorPlaysWrong)

/-- 'weirgatelaw02.SectorSafe': WHATEVER THE INPUT: true; the input reads as it did. -/
def sectorSafeSpec : ChangeSpec := { name := "sectorSafe", fn := fun _ => fun
  | [d1, d2, d3] => { results := [.lit (.bool true)], args := [d1, d2, d3] }
  | _ => none }
def sectorSafeRow : OpenClaim := { program := "ytnnhopjnpplfcaa", sum := "f1e25c6aa9544f51afdcb2fbac63120d2ae3e3c4077c878735ebf0c47f474c35", func := "weirgate/weirgatelaw02.SectorSafe", spec := "sectorSafe", unfollowed := true, recurses := true, apart := false }
def SectorSafeSaid : Prop := sectorSafeRow.holds Try.pinned (OpenSpec.ofChange sectorSafeSpec)

/-- ITS FALSE NEIGHBOUR: 'it returns false'. Refute it at one input. -/
def sectorSafeWrong : ChangeSpec := { name := "sectorSafe", fn := fun _ => fun
  | [d1, d2, d3] => { results := [.lit (.bool false)], args := [d1, d2, d3] }
  | _ => none }
def SectorSafeWrongFalsely : Prop := sectorSafeRow.holds Try.pinned (OpenSpec.ofChange sectorSafeWrong)

/-- 'weirgatelaw02.SectorNone': WHATEVER THE INPUT: true; the input reads as it did. -/
def sectorNoneSpec : ChangeSpec := { name := "sectorNone", fn := fun _ => fun
  | [d] => { results := [.lit (.bool true)], args := [d] }
  | _ => none }
def sectorNoneRow : OpenClaim := { program := "ytnnhopjnpplfcaa", sum := "f1e25c6aa9544f51afdcb2fbac63120d2ae3e3c4077c878735ebf0c47f474c35", func := "weirgate/weirgatelaw02.SectorNone", spec := "sectorNone", unfollowed := true, recurses := true, apart := false }
def SectorNoneSaid : Prop := sectorNoneRow.holds Try.pinned (OpenSpec.ofChange sectorNoneSpec)

/-- ITS FALSE NEIGHBOUR: 'it returns false'. Refute it at one input. -/
def sectorNoneWrong : ChangeSpec := { name := "sectorNone", fn := fun _ => fun
  | [d] => { results := [.lit (.bool false)], args := [d] }
  | _ => none }
def SectorNoneWrongFalsely : Prop := sectorNoneRow.holds Try.pinned (OpenSpec.ofChange sectorNoneWrong)

/-- 'weirgatelaw02.SectorFlushes': WHATEVER THE INPUT: true; the input reads as it did. -/
def sectorFlushesSpec : ChangeSpec := { name := "sectorFlushes", fn := fun _ => fun
  | [d1, d2] => { results := [.lit (.bool true)], args := [d1, d2] }
  | _ => none }
def sectorFlushesRow : OpenClaim := { program := "ytnnhopjnpplfcaa", sum := "f1e25c6aa9544f51afdcb2fbac63120d2ae3e3c4077c878735ebf0c47f474c35", func := "weirgate/weirgatelaw02.SectorFlushes", spec := "sectorFlushes", unfollowed := true, recurses := true, apart := false }
def SectorFlushesSaid : Prop := sectorFlushesRow.holds Try.pinned (OpenSpec.ofChange sectorFlushesSpec)

/-- ITS FALSE NEIGHBOUR: 'it returns false'. Refute it at one input. -/
def sectorFlushesWrong : ChangeSpec := { name := "sectorFlushes", fn := fun _ => fun
  | [d1, d2] => { results := [.lit (.bool false)], args := [d1, d2] }
  | _ => none }
def SectorFlushesWrongFalsely : Prop := sectorFlushesRow.holds Try.pinned (OpenSpec.ofChange sectorFlushesWrong)

/-- 'weirgatelaw03.EntryBack': WHATEVER THE INPUT: true; the input reads as it did. -/
def entryBackSpec : ChangeSpec := { name := "entryBack", fn := fun _ => fun
  | [d1, d2] => { results := [.lit (.bool true)], args := [d1, d2] }
  | _ => none }
def entryBackRow : OpenClaim := { program := "ytnnhopjnpplfcaa", sum := "f1e25c6aa9544f51afdcb2fbac63120d2ae3e3c4077c878735ebf0c47f474c35", func := "weirgate/weirgatelaw03.EntryBack", spec := "entryBack", unfollowed := true, recurses := true, apart := false }
def EntryBackSaid : Prop := entryBackRow.holds Try.pinned (OpenSpec.ofChange entryBackSpec)

/-- ITS FALSE NEIGHBOUR: 'it returns false'. Refute it at one input. -/
def entryBackWrong : ChangeSpec := { name := "entryBack", fn := fun _ => fun
  | [d1, d2] => { results := [.lit (.bool false)], args := [d1, d2] }
  | _ => none }
def EntryBackWrongFalsely : Prop := entryBackRow.holds Try.pinned (OpenSpec.ofChange entryBackWrong)

/-- 'weirgatelaw03.EntryTurns': WHATEVER THE INPUT: true; the input reads as it did. -/
def entryTurnsSpec : ChangeSpec := { name := "entryTurns", fn := fun _ => fun
  | [d1, d2, d3] => { results := [.lit (.bool true)], args := [d1, d2, d3] }
  | _ => none }
def entryTurnsRow : OpenClaim := { program := "ytnnhopjnpplfcaa", sum := "f1e25c6aa9544f51afdcb2fbac63120d2ae3e3c4077c878735ebf0c47f474c35", func := "weirgate/weirgatelaw03.EntryTurns", spec := "entryTurns", unfollowed := true, recurses := true, apart := false }
def EntryTurnsSaid : Prop := entryTurnsRow.holds Try.pinned (OpenSpec.ofChange entryTurnsSpec)

/-- ITS FALSE NEIGHBOUR: 'it returns false'. Refute it at one input. -/
def entryTurnsWrong : ChangeSpec := { name := "entryTurns", fn := fun _ => fun
  | [d1, d2, d3] => { results := [.lit (.bool false)], args := [d1, d2, d3] }
  | _ => none }
def EntryTurnsWrongFalsely : Prop := entryTurnsRow.holds Try.pinned (OpenSpec.ofChange entryTurnsWrong)

/-- 'weirgatelaw03.EntryNeeds': WHATEVER THE INPUT: true; the input reads as it did. -/
def entryNeedsSpec : ChangeSpec := { name := "entryNeeds", fn := fun _ => fun
  | [d] => { results := [.lit (.bool true)], args := [d] }
  | _ => none }
def entryNeedsRow : OpenClaim := { program := "ytnnhopjnpplfcaa", sum := "f1e25c6aa9544f51afdcb2fbac63120d2ae3e3c4077c878735ebf0c47f474c35", func := "weirgate/weirgatelaw03.EntryNeeds", spec := "entryNeeds", unfollowed := true, recurses := true, apart := false }
def EntryNeedsSaid : Prop := entryNeedsRow.holds Try.pinned (OpenSpec.ofChange entryNeedsSpec)

/-- ITS FALSE NEIGHBOUR: 'it returns false'. Refute it at one input. -/
def entryNeedsWrong : ChangeSpec := { name := "entryNeeds", fn := fun _ => fun
  | [d] => { results := [.lit (.bool false)], args := [d] }
  | _ => none }
def EntryNeedsWrongFalsely : Prop := entryNeedsRow.holds Try.pinned (OpenSpec.ofChange entryNeedsWrong)

/- THE SECOND FORM. 'bulk': how many values and letters a reading holds, each counted each time it is reached (what is shared counts as often as it is met; a slice's spare places count too). A statement '..UptoSaid' is the law's where the arguments, and the package variables that the reading takes, are together of bulk at most 1048576: NARROWER than '..Said'. Prove '..Said' where nothing that the law and all that it calls make is longer than what came in: it says more and counts as full. Else prove '..UptoSaid'. A law counts once. -/
mutual
def uptoBulk {H : Type} : DataW H → Nat
  | .lit (.string bytes) => bytes.length + 1
  | .lit _ => 1
  | .nil => 1
  | .ptr d => uptoBulk d + 1
  | .slice elems spare => uptoBulkAll elems + uptoBulkAll spare + 1
  | .agg parts => uptoBulkAll parts + 1
  | .iface _ d => uptoBulk d + 1
  | .map entries => uptoBulkEntries entries + 1
  | .held _ => 1
def uptoBulkAll {H : Type} : List (DataW H) → Nat
  | [] => 0
  | d :: r => uptoBulk d + uptoBulkAll r
def uptoBulkEntries {H : Type} : List (Lit × DataW H) → Nat
  | [] => 0
  | x :: r => uptoBulkEntry x + uptoBulkEntries r
def uptoBulkEntry {H : Type} : Lit × DataW H → Nat
  | (.string bytes, d) => bytes.length + uptoBulk d + 1
  | (_, d) => uptoBulk d + 1
 end
def uptoSmall : (H : Type) → List (DataW H) → Bool := fun _ ds => decide (uptoBulkAll ds ≤ 1048576)
def OpenSpec.upto (s : _root_.Go.ChangeSpec) : _root_.Go.OpenSpec := { _root_.Go.OpenSpec.ofChange s with cond := some uptoSmall }

/-- 'weirgatelaw02.SectorLast', WHERE WHAT IT READS IS OF BULK AT MOST 1048576: true; the input reads as it did. -/
def sectorLastUptoRow : OpenClaim := { program := "ytnnhopjnpplfcaa", sum := "f1e25c6aa9544f51afdcb2fbac63120d2ae3e3c4077c878735ebf0c47f474c35", func := "weirgate/weirgatelaw02.SectorLast", spec := "sectorLast", unfollowed := true, recurses := true, apart := false, narrowed := true }
def SectorLastUptoSaid : Prop := sectorLastUptoRow.holds Try.pinned (OpenSpec.upto sectorLastSpec)

/-- 'weirgatelaw02.SectorPlays', WHERE WHAT IT READS IS OF BULK AT MOST 1048576: true; the input reads as it did. -/
def sectorPlaysUptoRow : OpenClaim := { program := "ytnnhopjnpplfcaa", sum := "f1e25c6aa9544f51afdcb2fbac63120d2ae3e3c4077c878735ebf0c47f474c35", func := "weirgate/weirgatelaw02.SectorPlays", spec := "sectorPlays", unfollowed := true, recurses := true, apart := false, narrowed := true }
def SectorPlaysUptoSaid : Prop := sectorPlaysUptoRow.holds Try.pinned (OpenSpec.upto sectorPlaysSpec)

/-- 'weirgatelaw02.SectorSafe', WHERE WHAT IT READS IS OF BULK AT MOST 1048576: true; the input reads as it did. -/
def sectorSafeUptoRow : OpenClaim := { program := "ytnnhopjnpplfcaa", sum := "f1e25c6aa9544f51afdcb2fbac63120d2ae3e3c4077c878735ebf0c47f474c35", func := "weirgate/weirgatelaw02.SectorSafe", spec := "sectorSafe", unfollowed := true, recurses := true, apart := false, narrowed := true }
def SectorSafeUptoSaid : Prop := sectorSafeUptoRow.holds Try.pinned (OpenSpec.upto sectorSafeSpec)

/-- 'weirgatelaw02.SectorNone', WHERE WHAT IT READS IS OF BULK AT MOST 1048576: true; the input reads as it did. -/
def sectorNoneUptoRow : OpenClaim := { program := "ytnnhopjnpplfcaa", sum := "f1e25c6aa9544f51afdcb2fbac63120d2ae3e3c4077c878735ebf0c47f474c35", func := "weirgate/weirgatelaw02.SectorNone", spec := "sectorNone", unfollowed := true, recurses := true, apart := false, narrowed := true }
def SectorNoneUptoSaid : Prop := sectorNoneUptoRow.holds Try.pinned (OpenSpec.upto sectorNoneSpec)

/-- 'weirgatelaw02.SectorFlushes', WHERE WHAT IT READS IS OF BULK AT MOST 1048576: true; the input reads as it did. -/
def sectorFlushesUptoRow : OpenClaim := { program := "ytnnhopjnpplfcaa", sum := "f1e25c6aa9544f51afdcb2fbac63120d2ae3e3c4077c878735ebf0c47f474c35", func := "weirgate/weirgatelaw02.SectorFlushes", spec := "sectorFlushes", unfollowed := true, recurses := true, apart := false, narrowed := true }
def SectorFlushesUptoSaid : Prop := sectorFlushesUptoRow.holds Try.pinned (OpenSpec.upto sectorFlushesSpec)

/-- 'weirgatelaw03.EntryBack', WHERE WHAT IT READS IS OF BULK AT MOST 1048576: true; the input reads as it did. -/
def entryBackUptoRow : OpenClaim := { program := "ytnnhopjnpplfcaa", sum := "f1e25c6aa9544f51afdcb2fbac63120d2ae3e3c4077c878735ebf0c47f474c35", func := "weirgate/weirgatelaw03.EntryBack", spec := "entryBack", unfollowed := true, recurses := true, apart := false, narrowed := true }
def EntryBackUptoSaid : Prop := entryBackUptoRow.holds Try.pinned (OpenSpec.upto entryBackSpec)

/-- 'weirgatelaw03.EntryTurns', WHERE WHAT IT READS IS OF BULK AT MOST 1048576: true; the input reads as it did. -/
def entryTurnsUptoRow : OpenClaim := { program := "ytnnhopjnpplfcaa", sum := "f1e25c6aa9544f51afdcb2fbac63120d2ae3e3c4077c878735ebf0c47f474c35", func := "weirgate/weirgatelaw03.EntryTurns", spec := "entryTurns", unfollowed := true, recurses := true, apart := false, narrowed := true }
def EntryTurnsUptoSaid : Prop := entryTurnsUptoRow.holds Try.pinned (OpenSpec.upto entryTurnsSpec)

/-- 'weirgatelaw03.EntryNeeds', WHERE WHAT IT READS IS OF BULK AT MOST 1048576: true; the input reads as it did. -/
def entryNeedsUptoRow : OpenClaim := { program := "ytnnhopjnpplfcaa", sum := "f1e25c6aa9544f51afdcb2fbac63120d2ae3e3c4077c878735ebf0c47f474c35", func := "weirgate/weirgatelaw03.EntryNeeds", spec := "entryNeeds", unfollowed := true, recurses := true, apart := false, narrowed := true }
def EntryNeedsUptoSaid : Prop := entryNeedsUptoRow.holds Try.pinned (OpenSpec.upto entryNeedsSpec)

end Rows
end Go.Proofs.Ytnnhopjnpplfcaa
