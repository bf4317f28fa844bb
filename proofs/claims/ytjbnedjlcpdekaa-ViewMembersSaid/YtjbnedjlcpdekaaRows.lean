/-
  No cell of these rows narrows 'for every input' (looked for: loops, veiled, ifaces, maps, wideKeys, modest, calm, conditions, laid).
  DERIVED. THE GIVEN ROWS OF THIS SEAT. 6 by the template 'for every input the law returns true; each argument reads behind the call as it read before'; 0 by the template 'total and deterministic' (their statements: YtjbnedjlcpdekaaTotals.lean).
  GIVEN WITH THE SEED: the statements are not yours to turn. If you find one false, say at which input.
  Laid BY PROGRAM, IN A SANDBOX (cutbox-rows.mjs): the forced cells as the released guide's own fill.sh prints them over the translation 2a796bf389a4b822… (all of the seat's roots in one cut). By AI agents, Wed Nov 11 2026. No macro, syntax, notation, axiom, sorry.
-/
import Derived.Test.YtjbnedjlcpdekaaChecked
import GoSem.Claim
import GoSem.ClaimJoined
import GoSem.ClaimMapViews
import Derived.JoinedTies
import Derived.KernelRfl
namespace Go.Proofs.Ytjbnedjlcpdekaa
/- THE CELL 'sum', in the pinned program and in every row, IS THE sha256 OF THE DUMP (.gsa) THAT YtjbnedjlcpdekaaProg.lean LOADS. Nothing in Lean hashes anything: it is a label: what it is worth is what the hold of that sum in a sandbox is worth. -/
noncomputable def Try.pinned : Pinned := { name := "ytjbnedjlcpdekaa", sum := "2a796bf389a4b82223bb86f24dcb1c6897377a885c536a284ee5362dc9da3ed1", checked := Try.checked }
namespace Rows
def none {H : Type} : Left H := { results := [], args := [] }

/-- 'bodegalaw10.ViewValues': WHATEVER THE INPUT: true; the input reads as it did. -/
def viewValuesSpec : ChangeSpec := { name := "viewValues", fn := fun _ => fun
  | [d1, d2, d3, d4, d5] => { results := [.lit (.bool true)], args := [d1, d2, d3, d4, d5] }
  | _ => none }
def viewValuesRow : OpenClaim := { program := "ytjbnedjlcpdekaa", sum := "2a796bf389a4b82223bb86f24dcb1c6897377a885c536a284ee5362dc9da3ed1", func := "bodega/bodegalaw10.ViewValues", spec := "viewValues", unfollowed := true, recurses := true, apart := false }
def ViewValuesSaid : Prop := viewValuesRow.holds Try.pinned (OpenSpec.ofChange viewValuesSpec)

/-- ITS FALSE NEIGHBOUR: 'it returns false'. Refute it at one input. -/
def viewValuesWrong : ChangeSpec := { name := "viewValues", fn := fun _ => fun
  | [d1, d2, d3, d4, d5] => { results := [.lit (.bool false)], args := [d1, d2, d3, d4, d5] }
  | _ => none }
def ViewValuesWrongFalsely : Prop := viewValuesRow.holds Try.pinned (OpenSpec.ofChange viewValuesWrong)

/-- 'bodegalaw10.ViewBack': WHATEVER THE INPUT: true; the input reads as it did. -/
def viewBackSpec : ChangeSpec := { name := "viewBack", fn := fun _ => fun
  | [d1, d2] => { results := [.lit (.bool true)], args := [d1, d2] }
  | _ => none }
def viewBackRow : OpenClaim := { program := "ytjbnedjlcpdekaa", sum := "2a796bf389a4b82223bb86f24dcb1c6897377a885c536a284ee5362dc9da3ed1", func := "bodega/bodegalaw10.ViewBack", spec := "viewBack", unfollowed := true, recurses := true, apart := false }
def ViewBackSaid : Prop := viewBackRow.holds Try.pinned (OpenSpec.ofChange viewBackSpec)

/-- ITS FALSE NEIGHBOUR: 'it returns false'. Refute it at one input. -/
def viewBackWrong : ChangeSpec := { name := "viewBack", fn := fun _ => fun
  | [d1, d2] => { results := [.lit (.bool false)], args := [d1, d2] }
  | _ => none }
def ViewBackWrongFalsely : Prop := viewBackRow.holds Try.pinned (OpenSpec.ofChange viewBackWrong)

/-- 'bodegalaw10.ViewValid': WHATEVER THE INPUT: true; the input reads as it did. -/
def viewValidSpec : ChangeSpec := { name := "viewValid", fn := fun _ => fun
  | [d1, d2, d3, d4] => { results := [.lit (.bool true)], args := [d1, d2, d3, d4] }
  | _ => none }
def viewValidRow : OpenClaim := { program := "ytjbnedjlcpdekaa", sum := "2a796bf389a4b82223bb86f24dcb1c6897377a885c536a284ee5362dc9da3ed1", func := "bodega/bodegalaw10.ViewValid", spec := "viewValid", unfollowed := true, recurses := true, apart := false }
def ViewValidSaid : Prop := viewValidRow.holds Try.pinned (OpenSpec.ofChange viewValidSpec)

/-- ITS FALSE NEIGHBOUR: 'it returns false'. Refute it at one input. -/
def viewValidWrong : ChangeSpec := { name := "viewValid", fn := fun _ => fun
  | [d1, d2, d3, d4] => { results := [.lit (.bool false)], args := [d1, d2, d3, d4] }
  | _ => none }
def ViewValidWrongFalsely : Prop := viewValidRow.holds Try.pinned (OpenSpec.ofChange viewValidWrong)

/-- 'bodegalaw10.ViewProposes': WHATEVER THE INPUT: true; the input reads as it did. -/
def viewProposesSpec : ChangeSpec := { name := "viewProposes", fn := fun _ => fun
  | [d1, d2, d3, d4, d5] => { results := [.lit (.bool true)], args := [d1, d2, d3, d4, d5] }
  | _ => none }
def viewProposesRow : OpenClaim := { program := "ytjbnedjlcpdekaa", sum := "2a796bf389a4b82223bb86f24dcb1c6897377a885c536a284ee5362dc9da3ed1", func := "bodega/bodegalaw10.ViewProposes", spec := "viewProposes", unfollowed := true, recurses := true, apart := false }
def ViewProposesSaid : Prop := viewProposesRow.holds Try.pinned (OpenSpec.ofChange viewProposesSpec)

/-- ITS FALSE NEIGHBOUR: 'it returns false'. Refute it at one input. -/
def viewProposesWrong : ChangeSpec := { name := "viewProposes", fn := fun _ => fun
  | [d1, d2, d3, d4, d5] => { results := [.lit (.bool false)], args := [d1, d2, d3, d4, d5] }
  | _ => none }
def ViewProposesWrongFalsely : Prop := viewProposesRow.holds Try.pinned (OpenSpec.ofChange viewProposesWrong)

/-- 'bodegalaw10.ViewKeeps': WHATEVER THE INPUT: true; the input reads as it did. -/
def viewKeepsSpec : ChangeSpec := { name := "viewKeeps", fn := fun _ => fun
  | [d1, d2, d3] => { results := [.lit (.bool true)], args := [d1, d2, d3] }
  | _ => none }
def viewKeepsRow : OpenClaim := { program := "ytjbnedjlcpdekaa", sum := "2a796bf389a4b82223bb86f24dcb1c6897377a885c536a284ee5362dc9da3ed1", func := "bodega/bodegalaw10.ViewKeeps", spec := "viewKeeps", unfollowed := true, recurses := true, apart := false }
def ViewKeepsSaid : Prop := viewKeepsRow.holds Try.pinned (OpenSpec.ofChange viewKeepsSpec)

/-- ITS FALSE NEIGHBOUR: 'it returns false'. Refute it at one input. -/
def viewKeepsWrong : ChangeSpec := { name := "viewKeeps", fn := fun _ => fun
  | [d1, d2, d3] => { results := [.lit (.bool false)], args := [d1, d2, d3] }
  | _ => none }
def ViewKeepsWrongFalsely : Prop := viewKeepsRow.holds Try.pinned (OpenSpec.ofChange viewKeepsWrong)

/-- 'bodegalaw10.ViewMembers': WHATEVER THE INPUT: true; the input reads as it did. -/
def viewMembersSpec : ChangeSpec := { name := "viewMembers", fn := fun _ => fun
  | [d1, d2, d3, d4, d5, d6] => { results := [.lit (.bool true)], args := [d1, d2, d3, d4, d5, d6] }
  | _ => none }
def viewMembersRow : OpenClaim := { program := "ytjbnedjlcpdekaa", sum := "2a796bf389a4b82223bb86f24dcb1c6897377a885c536a284ee5362dc9da3ed1", func := "bodega/bodegalaw10.ViewMembers", spec := "viewMembers", unfollowed := true, recurses := true, apart := false }
def ViewMembersSaid : Prop := viewMembersRow.holds Try.pinned (OpenSpec.ofChange viewMembersSpec)

/-- ITS FALSE NEIGHBOUR: 'it returns false'. Refute it at one input. -/
def viewMembersWrong : ChangeSpec := { name := "viewMembers", fn := fun _ => fun
  | [d1, d2, d3, d4, d5, d6] => { results := [.lit (.bool false)], args := [d1, d2, d3, d4, d5, d6] }
  | _ => none }
def ViewMembersWrongFalsely : Prop := viewMembersRow.holds Try.pinned (OpenSpec.ofChange viewMembersWrong)

/- THE SECOND FORM. 'bulk': how many values and letters a reading holds, each counted each time it is reached (what is shared counts as often as it is met; a slice's spare places count too). A statement '..UptoSaid' is the law's where the arguments, and the package variables that the reading takes, are together of bulk at most 1048576: NARROWER than '..Said'. Prove '..Said' where nothing that the law and all that it calls make is longer than what came in: it says more and counts as full. Else prove '..UptoSaid'. A law counts once. -/
mutual
def uptoBulk {H : Type} : DataW H → Nat
  | .lit (.string bytes) => bytes.length + 1
  | .lit _ => 1
  | .nil => 1
  | .ptr d => uptoBulk d + 1
  | .slice elems spare => uptoBulkAll elems + uptoBulkAll spare + 1
  | .agg parts => uptoBulkAll parts + 1
  | .iface _ d => uptoBulk d + 1
  | .map entries => uptoBulkEntries entries + 1
  | .held _ => 1
def uptoBulkAll {H : Type} : List (DataW H) → Nat
  | [] => 0
  | d :: r => uptoBulk d + uptoBulkAll r
def uptoBulkEntries {H : Type} : List (Lit × DataW H) → Nat
  | [] => 0
  | x :: r => uptoBulkEntry x + uptoBulkEntries r
def uptoBulkEntry {H : Type} : Lit × DataW H → Nat
  | (.string bytes, d) => bytes.length + uptoBulk d + 1
  | (_, d) => uptoBulk d + 1
 end
def uptoSmall : (H : Type) → List (DataW H) → Bool := fun _ ds => decide (uptoBulkAll ds ≤ 1048576)
def OpenSpec.upto (s : _root_.Go.ChangeSpec) : _root_.Go.OpenSpec := { _root_.Go.OpenSpec.ofChange s with cond := some uptoSmall }

/-- 'bodegalaw10.ViewValues', WHERE WHAT IT READS IS OF BULK AT MOST 1048576: true; the input reads as it did. -/
def viewValuesUptoRow : OpenClaim := { program := "ytjbnedjlcpdekaa", sum := "2a796bf389a4b82223bb86f24dcb1c6897377a885c536a284ee5362dc9da3ed1", func := "bodega/bodegalaw10.ViewValues", spec := "viewValues", unfollowed := true, recurses := true, apart := false, narrowed := true }
def ViewValuesUptoSaid : Prop := viewValuesUptoRow.holds Try.pinned (OpenSpec.upto viewValuesSpec)

/-- 'bodegalaw10.ViewBack', WHERE WHAT IT READS IS OF BULK AT MOST 1048576: true; the input reads as it did. -/
def viewBackUptoRow : OpenClaim := { program := "ytjbnedjlcpdekaa", sum := "2a796bf389a4b82223bb86f24dcb1c6897377a885c536a284ee5362dc9da3ed1", func := "bodega/bodegalaw10.ViewBack", spec := "viewBack", unfollowed := true, recurses := true, apart := false, narrowed := true }
def ViewBackUptoSaid : Prop := viewBackUptoRow.holds Try.pinned (OpenSpec.upto viewBackSpec)

/-- 'bodegalaw10.ViewValid', WHERE WHAT IT READS IS OF BULK AT MOST 1048576: true; the input reads as it did. -/
def viewValidUptoRow : OpenClaim := { program := "ytjbnedjlcpdekaa", sum := "2a796bf389a4b82223bb86f24dcb1c6897377a885c536a284ee5362dc9da3ed1", func := "bodega/bodegalaw10.ViewValid", spec := "viewValid", unfollowed := true, recurses := true, apart := false, narrowed := true }
def ViewValidUptoSaid : Prop := viewValidUptoRow.holds Try.pinned (OpenSpec.upto viewValidSpec)

/-- 'bodegalaw10.ViewProposes', WHERE WHAT IT READS IS OF BULK AT MOST 1048576: true; the input reads as it did. -/
def viewProposesUptoRow : OpenClaim := { program := "ytjbnedjlcpdekaa", sum := "2a796bf389a4b82223bb86f24dcb1c6897377a885c536a284ee5362dc9da3ed1", func := "bodega/bodegalaw10.ViewProposes", spec := "viewProposes", unfollowed := true, recurses := true, apart := false, narrowed := true }
def ViewProposesUptoSaid : Prop := viewProposesUptoRow.holds Try.pinned (OpenSpec.upto viewProposesSpec)

/-- 'bodegalaw10.ViewKeeps', WHERE WHAT IT READS IS OF BULK AT MOST 1048576: true; the input reads as it did. -/
def viewKeepsUptoRow : OpenClaim := { program := "ytjbnedjlcpdekaa", sum := "2a796bf389a4b82223bb86f24dcb1c6897377a885c536a284ee5362dc9da3ed1", func := "bodega/bodegalaw10.ViewKeeps", spec := "viewKeeps", unfollowed := true, recurses := true, apart := false, narrowed := true }
def ViewKeepsUptoSaid : Prop := viewKeepsUptoRow.holds Try.pinned (OpenSpec.upto viewKeepsSpec)

/-- 'bodegalaw10.ViewMembers', WHERE WHAT IT READS IS OF BULK AT MOST 1048576: true; the input reads as it did. -/
def viewMembersUptoRow : OpenClaim := { program := "ytjbnedjlcpdekaa", sum := "2a796bf389a4b82223bb86f24dcb1c6897377a885c536a284ee5362dc9da3ed1", func := "bodega/bodegalaw10.ViewMembers", spec := "viewMembers", unfollowed := true, recurses := true, apart := false, narrowed := true }
def ViewMembersUptoSaid : Prop := viewMembersUptoRow.holds Try.pinned (OpenSpec.upto viewMembersSpec)

end Rows
end Go.Proofs.Ytjbnedjlcpdekaa
