/-
  No cell of these rows narrows 'for every input' (looked for: loops, veiled, ifaces, maps, wideKeys, modest, calm, conditions, laid).
  DERIVED. THE GIVEN ROWS OF THIS SEAT. 8 by the template 'for every input the law returns true; each argument reads behind the call as it read before'; 0 by the template 'total and deterministic' (their statements: YtkgknibciclmjaaTotals.lean).
  GIVEN WITH THE SEED: the statements are not yours to turn. If you find one false, say at which input.
  Laid BY PROGRAM, IN A SANDBOX (cutbox-rows.mjs): the forced cells as the released guide's own fill.sh prints them over the translation b8e3dc5786d76e7d… (all of the seat's roots in one cut). By AI agents, Wed Nov 11 2026. No macro, syntax, notation, axiom, sorry.
-/
import Derived.Test.YtkgknibciclmjaaChecked
import GoSem.Claim
import GoSem.ClaimJoined
import GoSem.ClaimMapViews
import Derived.JoinedTies
import Derived.KernelRfl
namespace Go.Proofs.Ytkgknibciclmjaa
/- THE CELL 'sum', in the pinned program and in every row, IS THE sha256 OF THE DUMP (.gsa) THAT YtkgknibciclmjaaProg.lean LOADS. Nothing in Lean hashes anything: it is a label: what it is worth is what the hold of that sum in a sandbox is worth. -/
noncomputable def Try.pinned : Pinned := { name := "ytkgknibciclmjaa", sum := "b8e3dc5786d76e7d17b03bb822086b80828fb873304adba5bff0bfe00c81d327", checked := Try.checked }
namespace Rows
def none {H : Type} : Left H := { results := [], args := [] }

/-- 'estoverslaw02.IntervalChecks': WHATEVER THE INPUT: true; the input reads as it did. -/
def intervalChecksSpec : ChangeSpec := { name := "intervalChecks", fn := fun _ => fun
  | [d1, d2] => { results := [.lit (.bool true)], args := [d1, d2] }
  | _ => none }
def intervalChecksRow : OpenClaim := { program := "ytkgknibciclmjaa", sum := "b8e3dc5786d76e7d17b03bb822086b80828fb873304adba5bff0bfe00c81d327", func := "estovers/estoverslaw02.IntervalChecks", spec := "intervalChecks", unfollowed := true, recurses := true, apart := false }
def IntervalChecksSaid : Prop := intervalChecksRow.holds Try.pinned (OpenSpec.ofChange intervalChecksSpec)

/-- ITS FALSE NEIGHBOUR: 'it returns false'. Refute it at one input. -/
def intervalChecksWrong : ChangeSpec := { name := "intervalChecks", fn := fun _ => fun
  | [d1, d2] => { results := [.lit (.bool false)], args := [d1, d2] }
  | _ => none }
def IntervalChecksWrongFalsely : Prop := intervalChecksRow.holds Try.pinned (OpenSpec.ofChange intervalChecksWrong)

/-- 'estoverslaw02.IntervalEdits': WHATEVER THE INPUT: true; the input reads as it did. -/
def intervalEditsSpec : ChangeSpec := { name := "intervalEdits", fn := fun _ => fun
  | [d1, d2] => { results := [.lit (.bool true)], args := [d1, d2] }
  | _ => none }
def intervalEditsRow : OpenClaim := { program := "ytkgknibciclmjaa", sum := "b8e3dc5786d76e7d17b03bb822086b80828fb873304adba5bff0bfe00c81d327", func := "estovers/estoverslaw02.IntervalEdits", spec := "intervalEdits", unfollowed := true, recurses := true, apart := false }
def IntervalEditsSaid : Prop := intervalEditsRow.holds Try.pinned (OpenSpec.ofChange intervalEditsSpec)

/-- ITS FALSE NEIGHBOUR: 'it returns false'. Refute it at one input. -/
def intervalEditsWrong : ChangeSpec := { name := "intervalEdits", fn := fun _ => fun
  | [d1, d2] => { results := [.lit (.bool false)], args := [d1, d2] }
  | _ => none }
def IntervalEditsWrongFalsely : Prop := intervalEditsRow.holds Try.pinned (OpenSpec.ofChange intervalEditsWrong)

/-- 'estoverslaw02.IntervalGaps': WHATEVER THE INPUT: true; the input reads as it did. -/
def intervalGapsSpec : ChangeSpec := { name := "intervalGaps", fn := fun _ => fun
  | [d1, d2] => { results := [.lit (.bool true)], args := [d1, d2] }
  | _ => none }
def intervalGapsRow : OpenClaim := { program := "ytkgknibciclmjaa", sum := "b8e3dc5786d76e7d17b03bb822086b80828fb873304adba5bff0bfe00c81d327", func := "estovers/estoverslaw02.IntervalGaps", spec := "intervalGaps", unfollowed := true, recurses := true, apart := false }
def IntervalGapsSaid : Prop := intervalGapsRow.holds Try.pinned (OpenSpec.ofChange intervalGapsSpec)

/-- ITS FALSE NEIGHBOUR: 'it returns false'. Refute it at one input. -/
def intervalGapsWrong : ChangeSpec := { name := "intervalGaps", fn := fun _ => fun
  | [d1, d2] => { results := [.lit (.bool false)], args := [d1, d2] }
  | _ => none }
def IntervalGapsWrongFalsely : Prop := intervalGapsRow.holds Try.pinned (OpenSpec.ofChange intervalGapsWrong)

/-- 'estoverslaw02.IntervalFirst': WHATEVER THE INPUT: true; the input reads as it did. -/
def intervalFirstSpec : ChangeSpec := { name := "intervalFirst", fn := fun _ => fun
  | [d1, d2] => { results := [.lit (.bool true)], args := [d1, d2] }
  | _ => none }
def intervalFirstRow : OpenClaim := { program := "ytkgknibciclmjaa", sum := "b8e3dc5786d76e7d17b03bb822086b80828fb873304adba5bff0bfe00c81d327", func := "estovers/estoverslaw02.IntervalFirst", spec := "intervalFirst", unfollowed := true, recurses := true, apart := false }
def IntervalFirstSaid : Prop := intervalFirstRow.holds Try.pinned (OpenSpec.ofChange intervalFirstSpec)

/-- ITS FALSE NEIGHBOUR: 'it returns false'. Refute it at one input. -/
def intervalFirstWrong : ChangeSpec := { name := "intervalFirst", fn := fun _ => fun
  | [d1, d2] => { results := [.lit (.bool false)], args := [d1, d2] }
  | _ => none }
def IntervalFirstWrongFalsely : Prop := intervalFirstRow.holds Try.pinned (OpenSpec.ofChange intervalFirstWrong)

/-- 'estoverslaw02.IntervalOperations': WHATEVER THE INPUT: true; the input reads as it did. -/
def intervalOperationsSpec : ChangeSpec := { name := "intervalOperations", fn := fun _ => fun
  | [d1, d2] => { results := [.lit (.bool true)], args := [d1, d2] }
  | _ => none }
def intervalOperationsRow : OpenClaim := { program := "ytkgknibciclmjaa", sum := "b8e3dc5786d76e7d17b03bb822086b80828fb873304adba5bff0bfe00c81d327", func := "estovers/estoverslaw02.IntervalOperations", spec := "intervalOperations", unfollowed := true, recurses := true, apart := false }
def IntervalOperationsSaid : Prop := intervalOperationsRow.holds Try.pinned (OpenSpec.ofChange intervalOperationsSpec)

/-- ITS FALSE NEIGHBOUR: 'it returns false'. Refute it at one input. -/
def intervalOperationsWrong : ChangeSpec := { name := "intervalOperations", fn := fun _ => fun
  | [d1, d2] => { results := [.lit (.bool false)], args := [d1, d2] }
  | _ => none }
def IntervalOperationsWrongFalsely : Prop := intervalOperationsRow.holds Try.pinned (OpenSpec.ofChange intervalOperationsWrong)

/-- 'estoverslaw02.IntervalMembers': WHATEVER THE INPUT: true; the input reads as it did. -/
def intervalMembersSpec : ChangeSpec := { name := "intervalMembers", fn := fun _ => fun
  | [d1, d2, d3] => { results := [.lit (.bool true)], args := [d1, d2, d3] }
  | _ => none }
def intervalMembersRow : OpenClaim := { program := "ytkgknibciclmjaa", sum := "b8e3dc5786d76e7d17b03bb822086b80828fb873304adba5bff0bfe00c81d327", func := "estovers/estoverslaw02.IntervalMembers", spec := "intervalMembers", unfollowed := true, recurses := true, apart := false }
def IntervalMembersSaid : Prop := intervalMembersRow.holds Try.pinned (OpenSpec.ofChange intervalMembersSpec)

/-- ITS FALSE NEIGHBOUR: 'it returns false'. Refute it at one input. -/
def intervalMembersWrong : ChangeSpec := { name := "intervalMembers", fn := fun _ => fun
  | [d1, d2, d3] => { results := [.lit (.bool false)], args := [d1, d2, d3] }
  | _ => none }
def IntervalMembersWrongFalsely : Prop := intervalMembersRow.holds Try.pinned (OpenSpec.ofChange intervalMembersWrong)

/-- 'estoverslaw02.IntervalLaws': WHATEVER THE INPUT: true; the input reads as it did. -/
def intervalLawsSpec : ChangeSpec := { name := "intervalLaws", fn := fun _ => fun
  | [d1, d2, d3] => { results := [.lit (.bool true)], args := [d1, d2, d3] }
  | _ => none }
def intervalLawsRow : OpenClaim := { program := "ytkgknibciclmjaa", sum := "b8e3dc5786d76e7d17b03bb822086b80828fb873304adba5bff0bfe00c81d327", func := "estovers/estoverslaw02.IntervalLaws", spec := "intervalLaws", unfollowed := true, recurses := true, apart := false }
def IntervalLawsSaid : Prop := intervalLawsRow.holds Try.pinned (OpenSpec.ofChange intervalLawsSpec)

/-- ITS FALSE NEIGHBOUR: 'it returns false'. Refute it at one input. -/
def intervalLawsWrong : ChangeSpec := { name := "intervalLaws", fn := fun _ => fun
  | [d1, d2, d3] => { results := [.lit (.bool false)], args := [d1, d2, d3] }
  | _ => none }
def IntervalLawsWrongFalsely : Prop := intervalLawsRow.holds Try.pinned (OpenSpec.ofChange intervalLawsWrong)

/-- 'estoverslaw02.IntervalKeeps': WHATEVER THE INPUT: true; the input reads as it did. -/
def intervalKeepsSpec : ChangeSpec := { name := "intervalKeeps", fn := fun _ => fun
  | [d1, d2, d3] => { results := [.lit (.bool true)], args := [d1, d2, d3] }
  | _ => none }
def intervalKeepsRow : OpenClaim := { program := "ytkgknibciclmjaa", sum := "b8e3dc5786d76e7d17b03bb822086b80828fb873304adba5bff0bfe00c81d327", func := "estovers/estoverslaw02.IntervalKeeps", spec := "intervalKeeps", unfollowed := true, recurses := true, apart := false }
def IntervalKeepsSaid : Prop := intervalKeepsRow.holds Try.pinned (OpenSpec.ofChange intervalKeepsSpec)

/-- ITS FALSE NEIGHBOUR: 'it returns false'. Refute it at one input. -/
def intervalKeepsWrong : ChangeSpec := { name := "intervalKeeps", fn := fun _ => fun
  | [d1, d2, d3] => { results := [.lit (.bool false)], args := [d1, d2, d3] }
  | _ => none }
def IntervalKeepsWrongFalsely : Prop := intervalKeepsRow.holds Try.pinned (OpenSpec.ofChange intervalKeepsWrong)

/- THE SECOND FORM. 'bulk': how many values and letters a reading holds, each counted each time it is reached (what is shared counts as often as it is met; a slice's spare places count too). A statement '..UptoSaid' is the law's where the arguments, and the package variables that the reading takes, are together of bulk at most 1048576: NARROWER than '..Said'. Prove '..Said' where nothing that the law and all that it calls make is longer than what came in: it says more and counts as full. Else prove '..UptoSaid'. A law counts once. -/
mutual
def uptoBulk {H : Type} : DataW H → Nat
  | .lit (.string bytes) => bytes.length + 1
  | .lit _ => 1
  | .nil => 1
  | .ptr d => uptoBulk d + 1
  | .slice elems spare => uptoBulkAll elems + uptoBulkAll spare + 1
  | .agg parts => uptoBulkAll parts + 1
  | .iface _ d => uptoBulk d + 1
  | .map entries => uptoBulkEntries entries + 1
  | .held _ => 1
def uptoBulkAll {H : Type} : List (DataW H) → Nat
  | [] => 0
  | d :: r => uptoBulk d + uptoBulkAll r
def uptoBulkEntries {H : Type} : List (Lit × DataW H) → Nat
  | [] => 0
  | x :: r => uptoBulkEntry x + uptoBulkEntries r
def uptoBulkEntry {H : Type} : Lit × DataW H → Nat
  | (.string bytes, d) => bytes.length + uptoBulk d + 1
  | (_, d) => uptoBulk d + 1
 end
def uptoSmall : (H : Type) → List (DataW H) → Bool := fun _ ds => decide (uptoBulkAll ds ≤ 1048576)
def OpenSpec.upto (s : _root_.Go.ChangeSpec) : _root_.Go.OpenSpec := { _root_.Go.OpenSpec.ofChange s with cond := some uptoSmall }

/-- 'estoverslaw02.IntervalChecks', WHERE WHAT IT READS IS OF BULK AT MOST 1048576: true; the input reads as it did. -/
def intervalChecksUptoRow : OpenClaim := { program := "ytkgknibciclmjaa", sum := "b8e3dc5786d76e7d17b03bb822086b80828fb873304adba5bff0bfe00c81d327", func := "estovers/estoverslaw02.IntervalChecks", spec := "intervalChecks", unfollowed := true, recurses := true, apart := false, narrowed := true }
def IntervalChecksUptoSaid : Prop := intervalChecksUptoRow.holds Try.pinned (OpenSpec.upto intervalChecksSpec)

/-- 'estoverslaw02.IntervalEdits', WHERE WHAT IT READS IS OF BULK AT MOST 1048576: true; the input reads as it did. -/
def intervalEditsUptoRow : OpenClaim := { program := "ytkgknibciclmjaa", sum := "b8e3dc5786d76e7d17b03bb822086b80828fb873304adba5bff0bfe00c81d327", func := "estovers/estoverslaw02.IntervalEdits", spec := "intervalEdits", unfollowed := true, recurses := true, apart := false, narrowed := true }
def IntervalEditsUptoSaid : Prop := intervalEditsUptoRow.holds Try.pinned (OpenSpec.upto intervalEditsSpec)

/-- 'estoverslaw02.IntervalGaps', WHERE WHAT IT READS IS OF BULK AT MOST 1048576: true; the input reads as it did. -/
def intervalGapsUptoRow : OpenClaim := { program := "ytkgknibciclmjaa", sum := "b8e3dc5786d76e7d17b03bb822086b80828fb873304adba5bff0bfe00c81d327", func := "estovers/estoverslaw02.IntervalGaps", spec := "intervalGaps", unfollowed := true, recurses := true, apart := false, narrowed := true }
def IntervalGapsUptoSaid : Prop := intervalGapsUptoRow.holds Try.pinned (OpenSpec.upto intervalGapsSpec)

/-- 'estoverslaw02.IntervalFirst', WHERE WHAT IT READS IS OF BULK AT MOST 1048576: true; the input reads as it did. -/
def intervalFirstUptoRow : OpenClaim := { program := "ytkgknibciclmjaa", sum := "b8e3dc5786d76e7d17b03bb822086b80828fb873304adba5bff0bfe00c81d327", func := "estovers/estoverslaw02.IntervalFirst", spec := "intervalFirst", unfollowed := true, recurses := true, apart := false, narrowed := true }
def IntervalFirstUptoSaid : Prop := intervalFirstUptoRow.holds Try.pinned (OpenSpec.upto intervalFirstSpec)

/-- 'estoverslaw02.IntervalOperations', WHERE WHAT IT READS IS OF BULK AT MOST 1048576: true; the input reads as it did. -/
def intervalOperationsUptoRow : OpenClaim := { program := "ytkgknibciclmjaa", sum := "b8e3dc5786d76e7d17b03bb822086b80828fb873304adba5bff0bfe00c81d327", func := "estovers/estoverslaw02.IntervalOperations", spec := "intervalOperations", unfollowed := true, recurses := true, apart := false, narrowed := true }
def IntervalOperationsUptoSaid : Prop := intervalOperationsUptoRow.holds Try.pinned (OpenSpec.upto intervalOperationsSpec)

/-- 'estoverslaw02.IntervalMembers', WHERE WHAT IT READS IS OF BULK AT MOST 1048576: true; the input reads as it did. -/
def intervalMembersUptoRow : OpenClaim := { program := "ytkgknibciclmjaa", sum := "b8e3dc5786d76e7d17b03bb822086b80828fb873304adba5bff0bfe00c81d327", func := "estovers/estoverslaw02.IntervalMembers", spec := "intervalMembers", unfollowed := true, recurses := true, apart := false, narrowed := true }
def IntervalMembersUptoSaid : Prop := intervalMembersUptoRow.holds Try.pinned (OpenSpec.upto intervalMembersSpec)

/-- 'estoverslaw02.IntervalLaws', WHERE WHAT IT READS IS OF BULK AT MOST 1048576: true; the input reads as it did. -/
def intervalLawsUptoRow : OpenClaim := { program := "ytkgknibciclmjaa", sum := "b8e3dc5786d76e7d17b03bb822086b80828fb873304adba5bff0bfe00c81d327", func := "estovers/estoverslaw02.IntervalLaws", spec := "intervalLaws", unfollowed := true, recurses := true, apart := false, narrowed := true }
def IntervalLawsUptoSaid : Prop := intervalLawsUptoRow.holds Try.pinned (OpenSpec.upto intervalLawsSpec)

/-- 'estoverslaw02.IntervalKeeps', WHERE WHAT IT READS IS OF BULK AT MOST 1048576: true; the input reads as it did. -/
def intervalKeepsUptoRow : OpenClaim := { program := "ytkgknibciclmjaa", sum := "b8e3dc5786d76e7d17b03bb822086b80828fb873304adba5bff0bfe00c81d327", func := "estovers/estoverslaw02.IntervalKeeps", spec := "intervalKeeps", unfollowed := true, recurses := true, apart := false, narrowed := true }
def IntervalKeepsUptoSaid : Prop := intervalKeepsUptoRow.holds Try.pinned (OpenSpec.upto intervalKeepsSpec)

end Rows
end Go.Proofs.Ytkgknibciclmjaa
