/-
  No cell of these rows narrows 'for every input' (looked for: loops, veiled, ifaces, maps, wideKeys, modest, calm, conditions, laid).
  DERIVED. THE GIVEN ROWS OF THIS SEAT. 10 by the template 'for every input the law returns true; each argument reads behind the call as it read before'; 0 by the template 'total and deterministic' (their statements: YtjlolpmmpafjeaaGreatTotals.lean).
  GIVEN WITH THE SEED: the statements are not yours to turn. If you find one false, say at which input.
  Laid BY PROGRAM, IN A SANDBOX (cutbox-rows.mjs): the forced cells as the released guide's own fill.sh prints them over the translation 78997e4aefc7a346… (all of the seat's roots in one cut). By AI agents, Wed Nov 11 2026. No macro, syntax, notation, axiom, sorry.
-/
import Derived.Test.YtjlolpmmpafjeaaGreatChecked
import GoSem.Claim
import GoSem.ClaimJoined
import GoSem.ClaimMapViews
import Derived.JoinedTies
import Derived.KernelRfl
namespace Go.Proofs.YtjlolpmmpafjeaaGreat
/- THE CELL 'sum', in the pinned program and in every row, IS THE sha256 OF THE DUMP (.gsa) THAT YtjlolpmmpafjeaaGreatProg.lean LOADS. Nothing in Lean hashes anything: it is a label: what it is worth is what the hold of that sum in a sandbox is worth. -/
noncomputable def Tryz.pinned : Pinned := { name := "ytjlolpmmpafjeaagreat", sum := "78997e4aefc7a3463ea4ea6d76cce7571015de84b331d0e788d3455ef8503207", checked := Tryz.checked }
namespace Rows
def none {H : Type} : Left H := { results := [], args := [] }

/-- 'weirgatelaw08.StoreTorn': WHATEVER THE INPUT: true; the input reads as it did. -/
def storeTornSpec : ChangeSpec := { name := "storeTorn", fn := fun _ => fun
  | [d1, d2] => { results := [.lit (.bool true)], args := [d1, d2] }
  | _ => none }
def storeTornRow : OpenClaim := { program := "ytjlolpmmpafjeaagreat", sum := "78997e4aefc7a3463ea4ea6d76cce7571015de84b331d0e788d3455ef8503207", func := "weirgate/weirgatelaw08.StoreTorn", spec := "storeTorn", inPlace := ["slices.overlaps[weirgate/api.Vlan]", "slices.overlaps[weirgate/api.Static]"], unfollowed := true, recurses := true, apart := false }
def StoreTornSaid : Prop := storeTornRow.holds Tryz.pinned (OpenSpec.ofChange storeTornSpec)

/-- ITS FALSE NEIGHBOUR: 'it returns false'. Refute it at one input. -/
def storeTornWrong : ChangeSpec := { name := "storeTorn", fn := fun _ => fun
  | [d1, d2] => { results := [.lit (.bool false)], args := [d1, d2] }
  | _ => none }
def StoreTornWrongFalsely : Prop := storeTornRow.holds Tryz.pinned (OpenSpec.ofChange storeTornWrong)

/-- 'weirgatelaw08.StoreFolds': WHATEVER THE INPUT: true; the input reads as it did. -/
def storeFoldsSpec : ChangeSpec := { name := "storeFolds", fn := fun _ => fun
  | [d1, d2] => { results := [.lit (.bool true)], args := [d1, d2] }
  | _ => none }
def storeFoldsRow : OpenClaim := { program := "ytjlolpmmpafjeaagreat", sum := "78997e4aefc7a3463ea4ea6d76cce7571015de84b331d0e788d3455ef8503207", func := "weirgate/weirgatelaw08.StoreFolds", spec := "storeFolds", inPlace := ["slices.overlaps[weirgate/api.Vlan]", "slices.overlaps[weirgate/api.Static]"], unfollowed := true, recurses := true, apart := false }
def StoreFoldsSaid : Prop := storeFoldsRow.holds Tryz.pinned (OpenSpec.ofChange storeFoldsSpec)

/-- ITS FALSE NEIGHBOUR: 'it returns false'. Refute it at one input. -/
def storeFoldsWrong : ChangeSpec := { name := "storeFolds", fn := fun _ => fun
  | [d1, d2] => { results := [.lit (.bool false)], args := [d1, d2] }
  | _ => none }
def StoreFoldsWrongFalsely : Prop := storeFoldsRow.holds Tryz.pinned (OpenSpec.ofChange storeFoldsWrong)

/-- 'weirgatelaw08.StoreNone': WHATEVER THE INPUT: true; the input reads as it did. -/
def storeNoneSpec : ChangeSpec := { name := "storeNone", fn := fun _ => fun
  | [d1, d2] => { results := [.lit (.bool true)], args := [d1, d2] }
  | _ => none }
def storeNoneRow : OpenClaim := { program := "ytjlolpmmpafjeaagreat", sum := "78997e4aefc7a3463ea4ea6d76cce7571015de84b331d0e788d3455ef8503207", func := "weirgate/weirgatelaw08.StoreNone", spec := "storeNone", inPlace := ["slices.overlaps[weirgate/api.Vlan]", "slices.overlaps[weirgate/api.Static]"], unfollowed := true, recurses := true, apart := false }
def StoreNoneSaid : Prop := storeNoneRow.holds Tryz.pinned (OpenSpec.ofChange storeNoneSpec)

/-- ITS FALSE NEIGHBOUR: 'it returns false'. Refute it at one input. -/
def storeNoneWrong : ChangeSpec := { name := "storeNone", fn := fun _ => fun
  | [d1, d2] => { results := [.lit (.bool false)], args := [d1, d2] }
  | _ => none }
def StoreNoneWrongFalsely : Prop := storeNoneRow.holds Tryz.pinned (OpenSpec.ofChange storeNoneWrong)

/-- 'weirgatelaw08.StoreRoom': WHATEVER THE INPUT: true; the input reads as it did. -/
def storeRoomSpec : ChangeSpec := { name := "storeRoom", fn := fun _ => fun
  | [d1, d2] => { results := [.lit (.bool true)], args := [d1, d2] }
  | _ => none }
def storeRoomRow : OpenClaim := { program := "ytjlolpmmpafjeaagreat", sum := "78997e4aefc7a3463ea4ea6d76cce7571015de84b331d0e788d3455ef8503207", func := "weirgate/weirgatelaw08.StoreRoom", spec := "storeRoom", inPlace := ["slices.overlaps[weirgate/api.Vlan]", "slices.overlaps[weirgate/api.Static]"], unfollowed := true, recurses := true, apart := false }
def StoreRoomSaid : Prop := storeRoomRow.holds Tryz.pinned (OpenSpec.ofChange storeRoomSpec)

/-- ITS FALSE NEIGHBOUR: 'it returns false'. Refute it at one input. -/
def storeRoomWrong : ChangeSpec := { name := "storeRoom", fn := fun _ => fun
  | [d1, d2] => { results := [.lit (.bool false)], args := [d1, d2] }
  | _ => none }
def StoreRoomWrongFalsely : Prop := storeRoomRow.holds Tryz.pinned (OpenSpec.ofChange storeRoomWrong)

/-- 'weirgatelaw08.StorePlays': WHATEVER THE INPUT: true; the input reads as it did. -/
def storePlaysSpec : ChangeSpec := { name := "storePlays", fn := fun _ => fun
  | [d1, d2, d3] => { results := [.lit (.bool true)], args := [d1, d2, d3] }
  | _ => none }
def storePlaysRow : OpenClaim := { program := "ytjlolpmmpafjeaagreat", sum := "78997e4aefc7a3463ea4ea6d76cce7571015de84b331d0e788d3455ef8503207", func := "weirgate/weirgatelaw08.StorePlays", spec := "storePlays", inPlace := ["slices.overlaps[weirgate/api.Vlan]", "slices.overlaps[weirgate/api.Static]"], unfollowed := true, recurses := true, apart := false }
def StorePlaysSaid : Prop := storePlaysRow.holds Tryz.pinned (OpenSpec.ofChange storePlaysSpec)

/-- ITS FALSE NEIGHBOUR: 'it returns false'. Refute it at one input. -/
def storePlaysWrong : ChangeSpec := { name := "storePlays", fn := fun _ => fun
  | [d1, d2, d3] => { results := [.lit (.bool false)], args := [d1, d2, d3] }
  | _ => none }
def StorePlaysWrongFalsely : Prop := storePlaysRow.holds Tryz.pinned (OpenSpec.ofChange storePlaysWrong)

/-- 'weirgatelaw08.StoreOpens': WHATEVER THE INPUT: true; the input reads as it did. -/
def storeOpensSpec : ChangeSpec := { name := "storeOpens", fn := fun _ => fun
  | [d] => { results := [.lit (.bool true)], args := [d] }
  | _ => none }
def storeOpensRow : OpenClaim := { program := "ytjlolpmmpafjeaagreat", sum := "78997e4aefc7a3463ea4ea6d76cce7571015de84b331d0e788d3455ef8503207", func := "weirgate/weirgatelaw08.StoreOpens", spec := "storeOpens", inPlace := ["slices.overlaps[weirgate/api.Vlan]", "slices.overlaps[weirgate/api.Static]"], unfollowed := true, recurses := true, apart := false }
def StoreOpensSaid : Prop := storeOpensRow.holds Tryz.pinned (OpenSpec.ofChange storeOpensSpec)

/-- ITS FALSE NEIGHBOUR: 'it returns false'. Refute it at one input. -/
def storeOpensWrong : ChangeSpec := { name := "storeOpens", fn := fun _ => fun
  | [d] => { results := [.lit (.bool false)], args := [d] }
  | _ => none }
def StoreOpensWrongFalsely : Prop := storeOpensRow.holds Tryz.pinned (OpenSpec.ofChange storeOpensWrong)

/-- 'weirgatelaw23.CandRefuses': WHATEVER THE INPUT: true; the input reads as it did. -/
def candRefusesSpec : ChangeSpec := { name := "candRefuses", fn := fun _ => fun
  | [d1, d2] => { results := [.lit (.bool true)], args := [d1, d2] }
  | _ => none }
def candRefusesRow : OpenClaim := { program := "ytjlolpmmpafjeaagreat", sum := "78997e4aefc7a3463ea4ea6d76cce7571015de84b331d0e788d3455ef8503207", func := "weirgate/weirgatelaw23.CandRefuses", spec := "candRefuses", inPlace := ["slices.overlaps[weirgate/api.Vlan]", "slices.overlaps[weirgate/api.Static]"], unfollowed := true, recurses := true, apart := false }
def CandRefusesSaid : Prop := candRefusesRow.holds Tryz.pinned (OpenSpec.ofChange candRefusesSpec)

/-- ITS FALSE NEIGHBOUR: 'it returns false'. Refute it at one input. -/
def candRefusesWrong : ChangeSpec := { name := "candRefuses", fn := fun _ => fun
  | [d1, d2] => { results := [.lit (.bool false)], args := [d1, d2] }
  | _ => none }
def CandRefusesWrongFalsely : Prop := candRefusesRow.holds Tryz.pinned (OpenSpec.ofChange candRefusesWrong)

/-- 'weirgatelaw23.CandNone': WHATEVER THE INPUT: true; the input reads as it did. -/
def candNoneSpec : ChangeSpec := { name := "candNone", fn := fun _ => fun
  | [d] => { results := [.lit (.bool true)], args := [d] }
  | _ => none }
def candNoneRow : OpenClaim := { program := "ytjlolpmmpafjeaagreat", sum := "78997e4aefc7a3463ea4ea6d76cce7571015de84b331d0e788d3455ef8503207", func := "weirgate/weirgatelaw23.CandNone", spec := "candNone", inPlace := ["slices.overlaps[weirgate/api.Vlan]", "slices.overlaps[weirgate/api.Static]"], unfollowed := true, recurses := true, apart := false }
def CandNoneSaid : Prop := candNoneRow.holds Tryz.pinned (OpenSpec.ofChange candNoneSpec)

/-- ITS FALSE NEIGHBOUR: 'it returns false'. Refute it at one input. -/
def candNoneWrong : ChangeSpec := { name := "candNone", fn := fun _ => fun
  | [d] => { results := [.lit (.bool false)], args := [d] }
  | _ => none }
def CandNoneWrongFalsely : Prop := candNoneRow.holds Tryz.pinned (OpenSpec.ofChange candNoneWrong)

/-- 'weirgatelaw23.CandGathers': WHATEVER THE INPUT: true; the input reads as it did. -/
def candGathersSpec : ChangeSpec := { name := "candGathers", fn := fun _ => fun
  | [d1, d2] => { results := [.lit (.bool true)], args := [d1, d2] }
  | _ => none }
def candGathersRow : OpenClaim := { program := "ytjlolpmmpafjeaagreat", sum := "78997e4aefc7a3463ea4ea6d76cce7571015de84b331d0e788d3455ef8503207", func := "weirgate/weirgatelaw23.CandGathers", spec := "candGathers", inPlace := ["slices.overlaps[weirgate/api.Vlan]", "slices.overlaps[weirgate/api.Static]"], unfollowed := true, recurses := true, apart := false }
def CandGathersSaid : Prop := candGathersRow.holds Tryz.pinned (OpenSpec.ofChange candGathersSpec)

/-- ITS FALSE NEIGHBOUR: 'it returns false'. Refute it at one input. -/
def candGathersWrong : ChangeSpec := { name := "candGathers", fn := fun _ => fun
  | [d1, d2] => { results := [.lit (.bool false)], args := [d1, d2] }
  | _ => none }
def CandGathersWrongFalsely : Prop := candGathersRow.holds Tryz.pinned (OpenSpec.ofChange candGathersWrong)

/-- 'weirgatelaw23.CandPlays': WHATEVER THE INPUT: true; the input reads as it did. -/
def candPlaysSpec : ChangeSpec := { name := "candPlays", fn := fun _ => fun
  | [d1, d2] => { results := [.lit (.bool true)], args := [d1, d2] }
  | _ => none }
def candPlaysRow : OpenClaim := { program := "ytjlolpmmpafjeaagreat", sum := "78997e4aefc7a3463ea4ea6d76cce7571015de84b331d0e788d3455ef8503207", func := "weirgate/weirgatelaw23.CandPlays", spec := "candPlays", inPlace := ["slices.overlaps[weirgate/api.Vlan]", "slices.overlaps[weirgate/api.Static]"], unfollowed := true, recurses := true, apart := false }
def CandPlaysSaid : Prop := candPlaysRow.holds Tryz.pinned (OpenSpec.ofChange candPlaysSpec)

/-- ITS FALSE NEIGHBOUR: 'it returns false'. Refute it at one input. -/
def candPlaysWrong : ChangeSpec := { name := "candPlays", fn := fun _ => fun
  | [d1, d2] => { results := [.lit (.bool false)], args := [d1, d2] }
  | _ => none }
def CandPlaysWrongFalsely : Prop := candPlaysRow.holds Tryz.pinned (OpenSpec.ofChange candPlaysWrong)

/- THE SECOND FORM. 'bulk': how many values and letters a reading holds, each counted each time it is reached (what is shared counts as often as it is met; a slice's spare places count too). A statement '..UptoSaid' is the law's where the arguments, and the package variables that the reading takes, are together of bulk at most 1048576: NARROWER than '..Said'. Prove '..Said' where nothing that the law and all that it calls make is longer than what came in: it says more and counts as full. Else prove '..UptoSaid'. A law counts once. -/
mutual
def uptoBulk {H : Type} : DataW H → Nat
  | .lit (.string bytes) => bytes.length + 1
  | .lit _ => 1
  | .nil => 1
  | .ptr d => uptoBulk d + 1
  | .slice elems spare => uptoBulkAll elems + uptoBulkAll spare + 1
  | .agg parts => uptoBulkAll parts + 1
  | .iface _ d => uptoBulk d + 1
  | .map entries => uptoBulkEntries entries + 1
  | .held _ => 1
def uptoBulkAll {H : Type} : List (DataW H) → Nat
  | [] => 0
  | d :: r => uptoBulk d + uptoBulkAll r
def uptoBulkEntries {H : Type} : List (Lit × DataW H) → Nat
  | [] => 0
  | x :: r => uptoBulkEntry x + uptoBulkEntries r
def uptoBulkEntry {H : Type} : Lit × DataW H → Nat
  | (.string bytes, d) => bytes.length + uptoBulk d + 1
  | (_, d) => uptoBulk d + 1
 end
def uptoSmall : (H : Type) → List (DataW H) → Bool := fun _ ds => decide (uptoBulkAll ds ≤ 1048576)
def OpenSpec.upto (s : _root_.Go.ChangeSpec) : _root_.Go.OpenSpec := { _root_.Go.OpenSpec.ofChange s with cond := some uptoSmall }

/-- 'weirgatelaw08.StoreTorn', WHERE WHAT IT READS IS OF BULK AT MOST 1048576: true; the input reads as it did. -/
def storeTornUptoRow : OpenClaim := { program := "ytjlolpmmpafjeaagreat", sum := "78997e4aefc7a3463ea4ea6d76cce7571015de84b331d0e788d3455ef8503207", func := "weirgate/weirgatelaw08.StoreTorn", spec := "storeTorn", inPlace := ["slices.overlaps[weirgate/api.Vlan]", "slices.overlaps[weirgate/api.Static]"], unfollowed := true, recurses := true, apart := false, narrowed := true }
def StoreTornUptoSaid : Prop := storeTornUptoRow.holds Tryz.pinned (OpenSpec.upto storeTornSpec)

/-- 'weirgatelaw08.StoreFolds', WHERE WHAT IT READS IS OF BULK AT MOST 1048576: true; the input reads as it did. -/
def storeFoldsUptoRow : OpenClaim := { program := "ytjlolpmmpafjeaagreat", sum := "78997e4aefc7a3463ea4ea6d76cce7571015de84b331d0e788d3455ef8503207", func := "weirgate/weirgatelaw08.StoreFolds", spec := "storeFolds", inPlace := ["slices.overlaps[weirgate/api.Vlan]", "slices.overlaps[weirgate/api.Static]"], unfollowed := true, recurses := true, apart := false, narrowed := true }
def StoreFoldsUptoSaid : Prop := storeFoldsUptoRow.holds Tryz.pinned (OpenSpec.upto storeFoldsSpec)

/-- 'weirgatelaw08.StoreNone', WHERE WHAT IT READS IS OF BULK AT MOST 1048576: true; the input reads as it did. -/
def storeNoneUptoRow : OpenClaim := { program := "ytjlolpmmpafjeaagreat", sum := "78997e4aefc7a3463ea4ea6d76cce7571015de84b331d0e788d3455ef8503207", func := "weirgate/weirgatelaw08.StoreNone", spec := "storeNone", inPlace := ["slices.overlaps[weirgate/api.Vlan]", "slices.overlaps[weirgate/api.Static]"], unfollowed := true, recurses := true, apart := false, narrowed := true }
def StoreNoneUptoSaid : Prop := storeNoneUptoRow.holds Tryz.pinned (OpenSpec.upto storeNoneSpec)

/-- 'weirgatelaw08.StoreRoom', WHERE WHAT IT READS IS OF BULK AT MOST 1048576: true; the input reads as it did. -/
def storeRoomUptoRow : OpenClaim := { program := "ytjlolpmmpafjeaagreat", sum := "78997e4aefc7a3463ea4ea6d76cce7571015de84b331d0e788d3455ef8503207", func := "weirgate/weirgatelaw08.StoreRoom", spec := "storeRoom", inPlace := ["slices.overlaps[weirgate/api.Vlan]", "slices.overlaps[weirgate/api.Static]"], unfollowed := true, recurses := true, apart := false, narrowed := true }
def StoreRoomUptoSaid : Prop := storeRoomUptoRow.holds Tryz.pinned (OpenSpec.upto storeRoomSpec)

/-- 'weirgatelaw08.StorePlays', WHERE WHAT IT READS IS OF BULK AT MOST 1048576: true; the input reads as it did. -/
def storePlaysUptoRow : OpenClaim := { program := "ytjlolpmmpafjeaagreat", sum := "78997e4aefc7a3463ea4ea6d76cce7571015de84b331d0e788d3455ef8503207", func := "weirgate/weirgatelaw08.StorePlays", spec := "storePlays", inPlace := ["slices.overlaps[weirgate/api.Vlan]", "slices.overlaps[weirgate/api.Static]"], unfollowed := true, recurses := true, apart := false, narrowed := true }
def StorePlaysUptoSaid : Prop := storePlaysUptoRow.holds Tryz.pinned (OpenSpec.upto storePlaysSpec)

/-- 'weirgatelaw08.StoreOpens', WHERE WHAT IT READS IS OF BULK AT MOST 1048576: true; the input reads as it did. -/
def storeOpensUptoRow : OpenClaim := { program := "ytjlolpmmpafjeaagreat", sum := "78997e4aefc7a3463ea4ea6d76cce7571015de84b331d0e788d3455ef8503207", func := "weirgate/weirgatelaw08.StoreOpens", spec := "storeOpens", inPlace := ["slices.overlaps[weirgate/api.Vlan]", "slices.overlaps[weirgate/api.Static]"], unfollowed := true, recurses := true, apart := false, narrowed := true }
def StoreOpensUptoSaid : Prop := storeOpensUptoRow.holds Tryz.pinned (OpenSpec.upto storeOpensSpec)

/-- 'weirgatelaw23.CandRefuses', WHERE WHAT IT READS IS OF BULK AT MOST 1048576: true; the input reads as it did. -/
def candRefusesUptoRow : OpenClaim := { program := "ytjlolpmmpafjeaagreat", sum := "78997e4aefc7a3463ea4ea6d76cce7571015de84b331d0e788d3455ef8503207", func := "weirgate/weirgatelaw23.CandRefuses", spec := "candRefuses", inPlace := ["slices.overlaps[weirgate/api.Vlan]", "slices.overlaps[weirgate/api.Static]"], unfollowed := true, recurses := true, apart := false, narrowed := true }
def CandRefusesUptoSaid : Prop := candRefusesUptoRow.holds Tryz.pinned (OpenSpec.upto candRefusesSpec)

/-- 'weirgatelaw23.CandNone', WHERE WHAT IT READS IS OF BULK AT MOST 1048576: true; the input reads as it did. -/
def candNoneUptoRow : OpenClaim := { program := "ytjlolpmmpafjeaagreat", sum := "78997e4aefc7a3463ea4ea6d76cce7571015de84b331d0e788d3455ef8503207", func := "weirgate/weirgatelaw23.CandNone", spec := "candNone", inPlace := ["slices.overlaps[weirgate/api.Vlan]", "slices.overlaps[weirgate/api.Static]"], unfollowed := true, recurses := true, apart := false, narrowed := true }
def CandNoneUptoSaid : Prop := candNoneUptoRow.holds Tryz.pinned (OpenSpec.upto candNoneSpec)

/-- 'weirgatelaw23.CandGathers', WHERE WHAT IT READS IS OF BULK AT MOST 1048576: true; the input reads as it did. -/
def candGathersUptoRow : OpenClaim := { program := "ytjlolpmmpafjeaagreat", sum := "78997e4aefc7a3463ea4ea6d76cce7571015de84b331d0e788d3455ef8503207", func := "weirgate/weirgatelaw23.CandGathers", spec := "candGathers", inPlace := ["slices.overlaps[weirgate/api.Vlan]", "slices.overlaps[weirgate/api.Static]"], unfollowed := true, recurses := true, apart := false, narrowed := true }
def CandGathersUptoSaid : Prop := candGathersUptoRow.holds Tryz.pinned (OpenSpec.upto candGathersSpec)

/-- 'weirgatelaw23.CandPlays', WHERE WHAT IT READS IS OF BULK AT MOST 1048576: true; the input reads as it did. -/
def candPlaysUptoRow : OpenClaim := { program := "ytjlolpmmpafjeaagreat", sum := "78997e4aefc7a3463ea4ea6d76cce7571015de84b331d0e788d3455ef8503207", func := "weirgate/weirgatelaw23.CandPlays", spec := "candPlays", inPlace := ["slices.overlaps[weirgate/api.Vlan]", "slices.overlaps[weirgate/api.Static]"], unfollowed := true, recurses := true, apart := false, narrowed := true }
def CandPlaysUptoSaid : Prop := candPlaysUptoRow.holds Tryz.pinned (OpenSpec.upto candPlaysSpec)

end Rows
end Go.Proofs.YtjlolpmmpafjeaaGreat
