/-
  No cell of these rows narrows 'for every input' (looked for: loops, veiled, ifaces, maps, wideKeys, modest, calm, conditions, laid).
  DERIVED. THE GIVEN ROWS OF THIS SEAT. 10 by the template 'for every input the law returns true; each argument reads behind the call as it read before'; 0 by the template 'total and deterministic' (their statements: YtijaldfiaeafgaaTotals.lean).
  GIVEN WITH THE SEED: the statements are not yours to turn. If you find one false, say at which input.
  Laid BY PROGRAM, IN A SANDBOX (cutbox-rows.mjs): the forced cells as the released guide's own fill.sh prints them over the translation 31cce971fa351873… (all of the seat's roots in one cut). By AI agents, Wed Nov 11 2026. No macro, syntax, notation, axiom, sorry.
-/
import Derived.Test.YtijaldfiaeafgaaChecked
import GoSem.Claim
import GoSem.ClaimJoined
import GoSem.ClaimMapViews
import Derived.JoinedTies
import Derived.KernelRfl
namespace Go.Proofs.Ytijaldfiaeafgaa
/- THE CELL 'sum', in the pinned program and in every row, IS THE sha256 OF THE DUMP (.gsa) THAT YtijaldfiaeafgaaProg.lean LOADS. Nothing in Lean hashes anything: it is a label: what it is worth is what the hold of that sum in a sandbox is worth. -/
noncomputable def Try.pinned : Pinned := { name := "ytijaldfiaeafgaa", sum := "31cce971fa3518736c1b3c4f31f4a12ea801fc68877ea98715b201e4470cf43a", checked := Try.checked }
namespace Rows
def none {H : Type} : Left H := { results := [], args := [] }

/-- 'weirgatelaw07.SnapNone': WHATEVER THE INPUT: true; the input reads as it did. -/
def snapNoneSpec : ChangeSpec := { name := "snapNone", fn := fun _ => fun
  | [d1, d2, d3] => { results := [.lit (.bool true)], args := [d1, d2, d3] }
  | _ => none }
def snapNoneRow : OpenClaim := { program := "ytijaldfiaeafgaa", sum := "31cce971fa3518736c1b3c4f31f4a12ea801fc68877ea98715b201e4470cf43a", func := "weirgate/weirgatelaw07.SnapNone", spec := "snapNone", unfollowed := true, recurses := true, apart := false }
def SnapNoneSaid : Prop := snapNoneRow.holds Try.pinned (OpenSpec.ofChange snapNoneSpec)

/-- ITS FALSE NEIGHBOUR: 'it returns false'. Refute it at one input. -/
def snapNoneWrong : ChangeSpec := { name := "snapNone", fn := fun _ => fun
  | [d1, d2, d3] => { results := [.lit (.bool false)], args := [d1, d2, d3] }
  | _ => none }
def SnapNoneWrongFalsely : Prop := snapNoneRow.holds Try.pinned (OpenSpec.ofChange snapNoneWrong)

/-- 'weirgatelaw07.SnapTurns': WHATEVER THE INPUT: true; the input reads as it did. -/
def snapTurnsSpec : ChangeSpec := { name := "snapTurns", fn := fun _ => fun
  | [d] => { results := [.lit (.bool true)], args := [d] }
  | _ => none }
def snapTurnsRow : OpenClaim := { program := "ytijaldfiaeafgaa", sum := "31cce971fa3518736c1b3c4f31f4a12ea801fc68877ea98715b201e4470cf43a", func := "weirgate/weirgatelaw07.SnapTurns", spec := "snapTurns", unfollowed := true, recurses := true, apart := false }
def SnapTurnsSaid : Prop := snapTurnsRow.holds Try.pinned (OpenSpec.ofChange snapTurnsSpec)

/-- ITS FALSE NEIGHBOUR: 'it returns false'. Refute it at one input. -/
def snapTurnsWrong : ChangeSpec := { name := "snapTurns", fn := fun _ => fun
  | [d] => { results := [.lit (.bool false)], args := [d] }
  | _ => none }
def SnapTurnsWrongFalsely : Prop := snapTurnsRow.holds Try.pinned (OpenSpec.ofChange snapTurnsWrong)

/-- 'weirgatelaw07.SnapElder': WHATEVER THE INPUT: true; the input reads as it did. -/
def snapElderSpec : ChangeSpec := { name := "snapElder", fn := fun _ => fun
  | [d1, d2, d3] => { results := [.lit (.bool true)], args := [d1, d2, d3] }
  | _ => none }
def snapElderRow : OpenClaim := { program := "ytijaldfiaeafgaa", sum := "31cce971fa3518736c1b3c4f31f4a12ea801fc68877ea98715b201e4470cf43a", func := "weirgate/weirgatelaw07.SnapElder", spec := "snapElder", unfollowed := true, recurses := true, apart := false }
def SnapElderSaid : Prop := snapElderRow.holds Try.pinned (OpenSpec.ofChange snapElderSpec)

/-- ITS FALSE NEIGHBOUR: 'it returns false'. Refute it at one input. -/
def snapElderWrong : ChangeSpec := { name := "snapElder", fn := fun _ => fun
  | [d1, d2, d3] => { results := [.lit (.bool false)], args := [d1, d2, d3] }
  | _ => none }
def SnapElderWrongFalsely : Prop := snapElderRow.holds Try.pinned (OpenSpec.ofChange snapElderWrong)

/-- 'weirgatelaw07.SnapPlays': WHATEVER THE INPUT: true; the input reads as it did. -/
def snapPlaysSpec : ChangeSpec := { name := "snapPlays", fn := fun _ => fun
  | [d1, d2] => { results := [.lit (.bool true)], args := [d1, d2] }
  | _ => none }
def snapPlaysRow : OpenClaim := { program := "ytijaldfiaeafgaa", sum := "31cce971fa3518736c1b3c4f31f4a12ea801fc68877ea98715b201e4470cf43a", func := "weirgate/weirgatelaw07.SnapPlays", spec := "snapPlays", unfollowed := true, recurses := true, apart := false }
def SnapPlaysSaid : Prop := snapPlaysRow.holds Try.pinned (OpenSpec.ofChange snapPlaysSpec)

/-- ITS FALSE NEIGHBOUR: 'it returns false'. Refute it at one input. -/
def snapPlaysWrong : ChangeSpec := { name := "snapPlays", fn := fun _ => fun
  | [d1, d2] => { results := [.lit (.bool false)], args := [d1, d2] }
  | _ => none }
def SnapPlaysWrongFalsely : Prop := snapPlaysRow.holds Try.pinned (OpenSpec.ofChange snapPlaysWrong)

/-- 'weirgatelaw07.SnapTorn': WHATEVER THE INPUT: true; the input reads as it did. -/
def snapTornSpec : ChangeSpec := { name := "snapTorn", fn := fun _ => fun
  | [d1, d2] => { results := [.lit (.bool true)], args := [d1, d2] }
  | _ => none }
def snapTornRow : OpenClaim := { program := "ytijaldfiaeafgaa", sum := "31cce971fa3518736c1b3c4f31f4a12ea801fc68877ea98715b201e4470cf43a", func := "weirgate/weirgatelaw07.SnapTorn", spec := "snapTorn", unfollowed := true, recurses := true, apart := false }
def SnapTornSaid : Prop := snapTornRow.holds Try.pinned (OpenSpec.ofChange snapTornSpec)

/-- ITS FALSE NEIGHBOUR: 'it returns false'. Refute it at one input. -/
def snapTornWrong : ChangeSpec := { name := "snapTorn", fn := fun _ => fun
  | [d1, d2] => { results := [.lit (.bool false)], args := [d1, d2] }
  | _ => none }
def SnapTornWrongFalsely : Prop := snapTornRow.holds Try.pinned (OpenSpec.ofChange snapTornWrong)

/-- 'weirgatelaw04.JournalEpochs': WHATEVER THE INPUT: true; the input reads as it did. -/
def journalEpochsSpec : ChangeSpec := { name := "journalEpochs", fn := fun _ => fun
  | [d1, d2] => { results := [.lit (.bool true)], args := [d1, d2] }
  | _ => none }
def journalEpochsRow : OpenClaim := { program := "ytijaldfiaeafgaa", sum := "31cce971fa3518736c1b3c4f31f4a12ea801fc68877ea98715b201e4470cf43a", func := "weirgate/weirgatelaw04.JournalEpochs", spec := "journalEpochs", unfollowed := true, recurses := true, apart := false }
def JournalEpochsSaid : Prop := journalEpochsRow.holds Try.pinned (OpenSpec.ofChange journalEpochsSpec)

/-- ITS FALSE NEIGHBOUR: 'it returns false'. Refute it at one input. -/
def journalEpochsWrong : ChangeSpec := { name := "journalEpochs", fn := fun _ => fun
  | [d1, d2] => { results := [.lit (.bool false)], args := [d1, d2] }
  | _ => none }
def JournalEpochsWrongFalsely : Prop := journalEpochsRow.holds Try.pinned (OpenSpec.ofChange journalEpochsWrong)

/-- 'weirgatelaw04.JournalNone': WHATEVER THE INPUT: true; the input reads as it did. -/
def journalNoneSpec : ChangeSpec := { name := "journalNone", fn := fun _ => fun
  | [d] => { results := [.lit (.bool true)], args := [d] }
  | _ => none }
def journalNoneRow : OpenClaim := { program := "ytijaldfiaeafgaa", sum := "31cce971fa3518736c1b3c4f31f4a12ea801fc68877ea98715b201e4470cf43a", func := "weirgate/weirgatelaw04.JournalNone", spec := "journalNone", unfollowed := true, recurses := true, apart := false }
def JournalNoneSaid : Prop := journalNoneRow.holds Try.pinned (OpenSpec.ofChange journalNoneSpec)

/-- ITS FALSE NEIGHBOUR: 'it returns false'. Refute it at one input. -/
def journalNoneWrong : ChangeSpec := { name := "journalNone", fn := fun _ => fun
  | [d] => { results := [.lit (.bool false)], args := [d] }
  | _ => none }
def JournalNoneWrongFalsely : Prop := journalNoneRow.holds Try.pinned (OpenSpec.ofChange journalNoneWrong)

/-- 'weirgatelaw04.JournalRooms': WHATEVER THE INPUT: true; the input reads as it did. -/
def journalRoomsSpec : ChangeSpec := { name := "journalRooms", fn := fun _ => fun
  | [d1, d2] => { results := [.lit (.bool true)], args := [d1, d2] }
  | _ => none }
def journalRoomsRow : OpenClaim := { program := "ytijaldfiaeafgaa", sum := "31cce971fa3518736c1b3c4f31f4a12ea801fc68877ea98715b201e4470cf43a", func := "weirgate/weirgatelaw04.JournalRooms", spec := "journalRooms", unfollowed := true, recurses := true, apart := false }
def JournalRoomsSaid : Prop := journalRoomsRow.holds Try.pinned (OpenSpec.ofChange journalRoomsSpec)

/-- ITS FALSE NEIGHBOUR: 'it returns false'. Refute it at one input. -/
def journalRoomsWrong : ChangeSpec := { name := "journalRooms", fn := fun _ => fun
  | [d1, d2] => { results := [.lit (.bool false)], args := [d1, d2] }
  | _ => none }
def JournalRoomsWrongFalsely : Prop := journalRoomsRow.holds Try.pinned (OpenSpec.ofChange journalRoomsWrong)

/-- 'weirgatelaw04.JournalPlays': WHATEVER THE INPUT: true; the input reads as it did. -/
def journalPlaysSpec : ChangeSpec := { name := "journalPlays", fn := fun _ => fun
  | [d1, d2] => { results := [.lit (.bool true)], args := [d1, d2] }
  | _ => none }
def journalPlaysRow : OpenClaim := { program := "ytijaldfiaeafgaa", sum := "31cce971fa3518736c1b3c4f31f4a12ea801fc68877ea98715b201e4470cf43a", func := "weirgate/weirgatelaw04.JournalPlays", spec := "journalPlays", unfollowed := true, recurses := true, apart := false }
def JournalPlaysSaid : Prop := journalPlaysRow.holds Try.pinned (OpenSpec.ofChange journalPlaysSpec)

/-- ITS FALSE NEIGHBOUR: 'it returns false'. Refute it at one input. -/
def journalPlaysWrong : ChangeSpec := { name := "journalPlays", fn := fun _ => fun
  | [d1, d2] => { results := [.lit (.bool false)], args := [d1, d2] }
  | _ => none }
def JournalPlaysWrongFalsely : Prop := journalPlaysRow.holds Try.pinned (OpenSpec.ofChange journalPlaysWrong)

/-- 'weirgatelaw04.JournalTorn': WHATEVER THE INPUT: true; the input reads as it did. -/
def journalTornSpec : ChangeSpec := { name := "journalTorn", fn := fun _ => fun
  | [d1, d2] => { results := [.lit (.bool true)], args := [d1, d2] }
  | _ => none }
def journalTornRow : OpenClaim := { program := "ytijaldfiaeafgaa", sum := "31cce971fa3518736c1b3c4f31f4a12ea801fc68877ea98715b201e4470cf43a", func := "weirgate/weirgatelaw04.JournalTorn", spec := "journalTorn", unfollowed := true, recurses := true, apart := false }
def JournalTornSaid : Prop := journalTornRow.holds Try.pinned (OpenSpec.ofChange journalTornSpec)

/-- ITS FALSE NEIGHBOUR: 'it returns false'. Refute it at one input. -/
def journalTornWrong : ChangeSpec := { name := "journalTorn", fn := fun _ => fun
  | [d1, d2] => { results := [.lit (.bool false)], args := [d1, d2] }
  | _ => none }
def JournalTornWrongFalsely : Prop := journalTornRow.holds Try.pinned (OpenSpec.ofChange journalTornWrong)

/- THE SECOND FORM. 'bulk': how many values and letters a reading holds, each counted each time it is reached (what is shared counts as often as it is met; a slice's spare places count too). A statement '..UptoSaid' is the law's where the arguments, and the package variables that the reading takes, are together of bulk at most 1048576: NARROWER than '..Said'. Prove '..Said' where nothing that the law and all that it calls make is longer than what came in: it says more and counts as full. Else prove '..UptoSaid'. A law counts once. -/
mutual
def uptoBulk {H : Type} : DataW H → Nat
  | .lit (.string bytes) => bytes.length + 1
  | .lit _ => 1
  | .nil => 1
  | .ptr d => uptoBulk d + 1
  | .slice elems spare => uptoBulkAll elems + uptoBulkAll spare + 1
  | .agg parts => uptoBulkAll parts + 1
  | .iface _ d => uptoBulk d + 1
  | .map entries => uptoBulkEntries entries + 1
  | .held _ => 1
def uptoBulkAll {H : Type} : List (DataW H) → Nat
  | [] => 0
  | d :: r => uptoBulk d + uptoBulkAll r
def uptoBulkEntries {H : Type} : List (Lit × DataW H) → Nat
  | [] => 0
  | x :: r => uptoBulkEntry x + uptoBulkEntries r
def uptoBulkEntry {H : Type} : Lit × DataW H → Nat
  | (.string bytes, d) => bytes.length + uptoBulk d + 1
  | (_, d) => uptoBulk d + 1
 end
def uptoSmall : (H : Type) → List (DataW H) → Bool := fun _ ds => decide (uptoBulkAll ds ≤ 1048576)
def OpenSpec.upto (s : _root_.Go.ChangeSpec) : _root_.Go.OpenSpec := { _root_.Go.OpenSpec.ofChange s with cond := some uptoSmall }

/-- 'weirgatelaw07.SnapNone', WHERE WHAT IT READS IS OF BULK AT MOST 1048576: true; the input reads as it did. -/
def snapNoneUptoRow : OpenClaim := { program := "ytijaldfiaeafgaa", sum := "31cce971fa3518736c1b3c4f31f4a12ea801fc68877ea98715b201e4470cf43a", func := "weirgate/weirgatelaw07.SnapNone", spec := "snapNone", unfollowed := true, recurses := true, apart := false, narrowed := true }
def SnapNoneUptoSaid : Prop := snapNoneUptoRow.holds Try.pinned (OpenSpec.upto snapNoneSpec)

/-- 'weirgatelaw07.SnapTurns', WHERE WHAT IT READS IS OF BULK AT MOST 1048576: true; the input reads as it did. -/
def snapTurnsUptoRow : OpenClaim := { program := "ytijaldfiaeafgaa", sum := "31cce971fa3518736c1b3c4f31f4a12ea801fc68877ea98715b201e4470cf43a", func := "weirgate/weirgatelaw07.SnapTurns", spec := "snapTurns", unfollowed := true, recurses := true, apart := false, narrowed := true }
def SnapTurnsUptoSaid : Prop := snapTurnsUptoRow.holds Try.pinned (OpenSpec.upto snapTurnsSpec)

/-- 'weirgatelaw07.SnapElder', WHERE WHAT IT READS IS OF BULK AT MOST 1048576: true; the input reads as it did. -/
def snapElderUptoRow : OpenClaim := { program := "ytijaldfiaeafgaa", sum := "31cce971fa3518736c1b3c4f31f4a12ea801fc68877ea98715b201e4470cf43a", func := "weirgate/weirgatelaw07.SnapElder", spec := "snapElder", unfollowed := true, recurses := true, apart := false, narrowed := true }
def SnapElderUptoSaid : Prop := snapElderUptoRow.holds Try.pinned (OpenSpec.upto snapElderSpec)

/-- 'weirgatelaw07.SnapPlays', WHERE WHAT IT READS IS OF BULK AT MOST 1048576: true; the input reads as it did. -/
def snapPlaysUptoRow : OpenClaim := { program := "ytijaldfiaeafgaa", sum := "31cce971fa3518736c1b3c4f31f4a12ea801fc68877ea98715b201e4470cf43a", func := "weirgate/weirgatelaw07.SnapPlays", spec := "snapPlays", unfollowed := true, recurses := true, apart := false, narrowed := true }
def SnapPlaysUptoSaid : Prop := snapPlaysUptoRow.holds Try.pinned (OpenSpec.upto snapPlaysSpec)

/-- 'weirgatelaw07.SnapTorn', WHERE WHAT IT READS IS OF BULK AT MOST 1048576: true; the input reads as it did. -/
def snapTornUptoRow : OpenClaim := { program := "ytijaldfiaeafgaa", sum := "31cce971fa3518736c1b3c4f31f4a12ea801fc68877ea98715b201e4470cf43a", func := "weirgate/weirgatelaw07.SnapTorn", spec := "snapTorn", unfollowed := true, recurses := true, apart := false, narrowed := true }
def SnapTornUptoSaid : Prop := snapTornUptoRow.holds Try.pinned (OpenSpec.upto snapTornSpec)

/-- 'weirgatelaw04.JournalEpochs', WHERE WHAT IT READS IS OF BULK AT MOST 1048576: true; the input reads as it did. -/
def journalEpochsUptoRow : OpenClaim := { program := "ytijaldfiaeafgaa", sum := "31cce971fa3518736c1b3c4f31f4a12ea801fc68877ea98715b201e4470cf43a", func := "weirgate/weirgatelaw04.JournalEpochs", spec := "journalEpochs", unfollowed := true, recurses := true, apart := false, narrowed := true }
def JournalEpochsUptoSaid : Prop := journalEpochsUptoRow.holds Try.pinned (OpenSpec.upto journalEpochsSpec)

/-- 'weirgatelaw04.JournalNone', WHERE WHAT IT READS IS OF BULK AT MOST 1048576: true; the input reads as it did. -/
def journalNoneUptoRow : OpenClaim := { program := "ytijaldfiaeafgaa", sum := "31cce971fa3518736c1b3c4f31f4a12ea801fc68877ea98715b201e4470cf43a", func := "weirgate/weirgatelaw04.JournalNone", spec := "journalNone", unfollowed := true, recurses := true, apart := false, narrowed := true }
def JournalNoneUptoSaid : Prop := journalNoneUptoRow.holds Try.pinned (OpenSpec.upto journalNoneSpec)

/-- 'weirgatelaw04.JournalRooms', WHERE WHAT IT READS IS OF BULK AT MOST 1048576: true; the input reads as it did. -/
def journalRoomsUptoRow : OpenClaim := { program := "ytijaldfiaeafgaa", sum := "31cce971fa3518736c1b3c4f31f4a12ea801fc68877ea98715b201e4470cf43a", func := "weirgate/weirgatelaw04.JournalRooms", spec := "journalRooms", unfollowed := true, recurses := true, apart := false, narrowed := true }
def JournalRoomsUptoSaid : Prop := journalRoomsUptoRow.holds Try.pinned (OpenSpec.upto journalRoomsSpec)

/-- 'weirgatelaw04.JournalPlays', WHERE WHAT IT READS IS OF BULK AT MOST 1048576: true; the input reads as it did. -/
def journalPlaysUptoRow : OpenClaim := { program := "ytijaldfiaeafgaa", sum := "31cce971fa3518736c1b3c4f31f4a12ea801fc68877ea98715b201e4470cf43a", func := "weirgate/weirgatelaw04.JournalPlays", spec := "journalPlays", unfollowed := true, recurses := true, apart := false, narrowed := true }
def JournalPlaysUptoSaid : Prop := journalPlaysUptoRow.holds Try.pinned (OpenSpec.upto journalPlaysSpec)

/-- 'weirgatelaw04.JournalTorn', WHERE WHAT IT READS IS OF BULK AT MOST 1048576: true; the input reads as it did. -/
def journalTornUptoRow : OpenClaim := { program := "ytijaldfiaeafgaa", sum := "31cce971fa3518736c1b3c4f31f4a12ea801fc68877ea98715b201e4470cf43a", func := "weirgate/weirgatelaw04.JournalTorn", spec := "journalTorn", unfollowed := true, recurses := true, apart := false, narrowed := true }
def JournalTornUptoSaid : Prop := journalTornUptoRow.holds Try.pinned (OpenSpec.upto journalTornSpec)

end Rows
end Go.Proofs.Ytijaldfiaeafgaa
