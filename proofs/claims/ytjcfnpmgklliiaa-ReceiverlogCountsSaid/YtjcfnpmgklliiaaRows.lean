/-
  No cell of these rows narrows 'for every input' (looked for: loops, veiled, ifaces, maps, wideKeys, modest, calm, conditions, laid).
  DERIVED. THE GIVEN ROWS OF THIS SEAT. 10 by the template 'for every input the law returns true; each argument reads behind the call as it read before'; 0 by the template 'total and deterministic' (their statements: YtjcfnpmgklliiaaTotals.lean).
  GIVEN WITH THE SEED: the statements are not yours to turn. If you find one false, say at which input.
  Laid BY PROGRAM, IN A SANDBOX (cutbox-rows.mjs): the forced cells as the released guide's own fill.sh prints them over the translation f4d65616fb9d23f0… (all of the seat's roots in one cut). By AI agents, Wed Nov 11 2026. No macro, syntax, notation, axiom, sorry.
-/
import Derived.Test.YtjcfnpmgklliiaaChecked
import GoSem.Claim
import GoSem.ClaimJoined
import GoSem.ClaimMapViews
import Derived.JoinedTies
import Derived.KernelRfl
namespace Go.Proofs.Ytjcfnpmgklliiaa
/- THE CELL 'sum', in the pinned program and in every row, IS THE sha256 OF THE DUMP (.gsa) THAT YtjcfnpmgklliiaaProg.lean LOADS. Nothing in Lean hashes anything: it is a label: what it is worth is what the hold of that sum in a sandbox is worth. -/
noncomputable def Try.pinned : Pinned := { name := "ytjcfnpmgklliiaa", sum := "f4d65616fb9d23f0093c36d1ef0e233ca98fe9df5f2868232a0bc8d56712cbc8", checked := Try.checked }
namespace Rows
def none {H : Type} : Left H := { results := [], args := [] }

/-- 'rollbacknetlaw12.WalOpens': WHATEVER THE INPUT: true; the input reads as it did. -/
def walOpensSpec : ChangeSpec := { name := "walOpens", fn := fun _ => fun
  | [d1, d2, d3, d4] => { results := [.lit (.bool true)], args := [d1, d2, d3, d4] }
  | _ => none }
def walOpensRow : OpenClaim := { program := "ytjcfnpmgklliiaa", sum := "f4d65616fb9d23f0093c36d1ef0e233ca98fe9df5f2868232a0bc8d56712cbc8", func := "rollbacknet/rollbacknetlaw12.WalOpens", spec := "walOpens", unfollowed := true, recurses := true, apart := false }
def WalOpensSaid : Prop := walOpensRow.holds Try.pinned (OpenSpec.ofChange walOpensSpec)

/-- ITS FALSE NEIGHBOUR: 'it returns false'. Refute it at one input. -/
def walOpensWrong : ChangeSpec := { name := "walOpens", fn := fun _ => fun
  | [d1, d2, d3, d4] => { results := [.lit (.bool false)], args := [d1, d2, d3, d4] }
  | _ => none }
def WalOpensWrongFalsely : Prop := walOpensRow.holds Try.pinned (OpenSpec.ofChange walOpensWrong)

/-- 'rollbacknetlaw12.WalWrites': WHATEVER THE INPUT: true; the input reads as it did. -/
def walWritesSpec : ChangeSpec := { name := "walWrites", fn := fun _ => fun
  | [d1, d2, d3] => { results := [.lit (.bool true)], args := [d1, d2, d3] }
  | _ => none }
def walWritesRow : OpenClaim := { program := "ytjcfnpmgklliiaa", sum := "f4d65616fb9d23f0093c36d1ef0e233ca98fe9df5f2868232a0bc8d56712cbc8", func := "rollbacknet/rollbacknetlaw12.WalWrites", spec := "walWrites", unfollowed := true, recurses := true, apart := false }
def WalWritesSaid : Prop := walWritesRow.holds Try.pinned (OpenSpec.ofChange walWritesSpec)

/-- ITS FALSE NEIGHBOUR: 'it returns false'. Refute it at one input. -/
def walWritesWrong : ChangeSpec := { name := "walWrites", fn := fun _ => fun
  | [d1, d2, d3] => { results := [.lit (.bool false)], args := [d1, d2, d3] }
  | _ => none }
def WalWritesWrongFalsely : Prop := walWritesRow.holds Try.pinned (OpenSpec.ofChange walWritesWrong)

/-- 'rollbacknetlaw12.WalAgain': WHATEVER THE INPUT: true; the input reads as it did. -/
def walAgainSpec : ChangeSpec := { name := "walAgain", fn := fun _ => fun
  | [d1, d2, d3] => { results := [.lit (.bool true)], args := [d1, d2, d3] }
  | _ => none }
def walAgainRow : OpenClaim := { program := "ytjcfnpmgklliiaa", sum := "f4d65616fb9d23f0093c36d1ef0e233ca98fe9df5f2868232a0bc8d56712cbc8", func := "rollbacknet/rollbacknetlaw12.WalAgain", spec := "walAgain", unfollowed := true, recurses := true, apart := false }
def WalAgainSaid : Prop := walAgainRow.holds Try.pinned (OpenSpec.ofChange walAgainSpec)

/-- ITS FALSE NEIGHBOUR: 'it returns false'. Refute it at one input. -/
def walAgainWrong : ChangeSpec := { name := "walAgain", fn := fun _ => fun
  | [d1, d2, d3] => { results := [.lit (.bool false)], args := [d1, d2, d3] }
  | _ => none }
def WalAgainWrongFalsely : Prop := walAgainRow.holds Try.pinned (OpenSpec.ofChange walAgainWrong)

/-- 'rollbacknetlaw12.WalKeeps': WHATEVER THE INPUT: true; the input reads as it did. -/
def walKeepsSpec : ChangeSpec := { name := "walKeeps", fn := fun _ => fun
  | [d1, d2] => { results := [.lit (.bool true)], args := [d1, d2] }
  | _ => none }
def walKeepsRow : OpenClaim := { program := "ytjcfnpmgklliiaa", sum := "f4d65616fb9d23f0093c36d1ef0e233ca98fe9df5f2868232a0bc8d56712cbc8", func := "rollbacknet/rollbacknetlaw12.WalKeeps", spec := "walKeeps", unfollowed := true, recurses := true, apart := false }
def WalKeepsSaid : Prop := walKeepsRow.holds Try.pinned (OpenSpec.ofChange walKeepsSpec)

/-- ITS FALSE NEIGHBOUR: 'it returns false'. Refute it at one input. -/
def walKeepsWrong : ChangeSpec := { name := "walKeeps", fn := fun _ => fun
  | [d1, d2] => { results := [.lit (.bool false)], args := [d1, d2] }
  | _ => none }
def WalKeepsWrongFalsely : Prop := walKeepsRow.holds Try.pinned (OpenSpec.ofChange walKeepsWrong)

/-- 'rollbacknetlaw12.WalTorn': WHATEVER THE INPUT: true; the input reads as it did. -/
def walTornSpec : ChangeSpec := { name := "walTorn", fn := fun _ => fun
  | [d1, d2, d3] => { results := [.lit (.bool true)], args := [d1, d2, d3] }
  | _ => none }
def walTornRow : OpenClaim := { program := "ytjcfnpmgklliiaa", sum := "f4d65616fb9d23f0093c36d1ef0e233ca98fe9df5f2868232a0bc8d56712cbc8", func := "rollbacknet/rollbacknetlaw12.WalTorn", spec := "walTorn", unfollowed := true, recurses := true, apart := false }
def WalTornSaid : Prop := walTornRow.holds Try.pinned (OpenSpec.ofChange walTornSpec)

/-- ITS FALSE NEIGHBOUR: 'it returns false'. Refute it at one input. -/
def walTornWrong : ChangeSpec := { name := "walTorn", fn := fun _ => fun
  | [d1, d2, d3] => { results := [.lit (.bool false)], args := [d1, d2, d3] }
  | _ => none }
def WalTornWrongFalsely : Prop := walTornRow.holds Try.pinned (OpenSpec.ofChange walTornWrong)

/-- 'rollbacknetlaw30.ReceiverlogKeeps': WHATEVER THE INPUT: true; the input reads as it did. -/
def receiverlogKeepsSpec : ChangeSpec := { name := "receiverlogKeeps", fn := fun _ => fun
  | [d1, d2] => { results := [.lit (.bool true)], args := [d1, d2] }
  | _ => none }
def receiverlogKeepsRow : OpenClaim := { program := "ytjcfnpmgklliiaa", sum := "f4d65616fb9d23f0093c36d1ef0e233ca98fe9df5f2868232a0bc8d56712cbc8", func := "rollbacknet/rollbacknetlaw30.ReceiverlogKeeps", spec := "receiverlogKeeps", unfollowed := true, recurses := true, apart := false }
def ReceiverlogKeepsSaid : Prop := receiverlogKeepsRow.holds Try.pinned (OpenSpec.ofChange receiverlogKeepsSpec)

/-- ITS FALSE NEIGHBOUR: 'it returns false'. Refute it at one input. -/
def receiverlogKeepsWrong : ChangeSpec := { name := "receiverlogKeeps", fn := fun _ => fun
  | [d1, d2] => { results := [.lit (.bool false)], args := [d1, d2] }
  | _ => none }
def ReceiverlogKeepsWrongFalsely : Prop := receiverlogKeepsRow.holds Try.pinned (OpenSpec.ofChange receiverlogKeepsWrong)

/-- 'rollbacknetlaw30.ReceiverlogPlays': WHATEVER THE INPUT: true; the input reads as it did. -/
def receiverlogPlaysSpec : ChangeSpec := { name := "receiverlogPlays", fn := fun _ => fun
  | [d] => { results := [.lit (.bool true)], args := [d] }
  | _ => none }
def receiverlogPlaysRow : OpenClaim := { program := "ytjcfnpmgklliiaa", sum := "f4d65616fb9d23f0093c36d1ef0e233ca98fe9df5f2868232a0bc8d56712cbc8", func := "rollbacknet/rollbacknetlaw30.ReceiverlogPlays", spec := "receiverlogPlays", unfollowed := true, recurses := true, apart := false }
def ReceiverlogPlaysSaid : Prop := receiverlogPlaysRow.holds Try.pinned (OpenSpec.ofChange receiverlogPlaysSpec)

/-- ITS FALSE NEIGHBOUR: 'it returns false'. Refute it at one input. -/
def receiverlogPlaysWrong : ChangeSpec := { name := "receiverlogPlays", fn := fun _ => fun
  | [d] => { results := [.lit (.bool false)], args := [d] }
  | _ => none }
def ReceiverlogPlaysWrongFalsely : Prop := receiverlogPlaysRow.holds Try.pinned (OpenSpec.ofChange receiverlogPlaysWrong)

/-- 'rollbacknetlaw30.ReceiverlogPessimistic': WHATEVER THE INPUT: true; the input reads as it did. -/
def receiverlogPessimisticSpec : ChangeSpec := { name := "receiverlogPessimistic", fn := fun _ => fun
  | [d] => { results := [.lit (.bool true)], args := [d] }
  | _ => none }
def receiverlogPessimisticRow : OpenClaim := { program := "ytjcfnpmgklliiaa", sum := "f4d65616fb9d23f0093c36d1ef0e233ca98fe9df5f2868232a0bc8d56712cbc8", func := "rollbacknet/rollbacknetlaw30.ReceiverlogPessimistic", spec := "receiverlogPessimistic", unfollowed := true, recurses := true, apart := false }
def ReceiverlogPessimisticSaid : Prop := receiverlogPessimisticRow.holds Try.pinned (OpenSpec.ofChange receiverlogPessimisticSpec)

/-- ITS FALSE NEIGHBOUR: 'it returns false'. Refute it at one input. -/
def receiverlogPessimisticWrong : ChangeSpec := { name := "receiverlogPessimistic", fn := fun _ => fun
  | [d] => { results := [.lit (.bool false)], args := [d] }
  | _ => none }
def ReceiverlogPessimisticWrongFalsely : Prop := receiverlogPessimisticRow.holds Try.pinned (OpenSpec.ofChange receiverlogPessimisticWrong)

/-- 'rollbacknetlaw30.ReceiverlogOptimistic': WHATEVER THE INPUT: true; the input reads as it did. -/
def receiverlogOptimisticSpec : ChangeSpec := { name := "receiverlogOptimistic", fn := fun _ => fun
  | [d] => { results := [.lit (.bool true)], args := [d] }
  | _ => none }
def receiverlogOptimisticRow : OpenClaim := { program := "ytjcfnpmgklliiaa", sum := "f4d65616fb9d23f0093c36d1ef0e233ca98fe9df5f2868232a0bc8d56712cbc8", func := "rollbacknet/rollbacknetlaw30.ReceiverlogOptimistic", spec := "receiverlogOptimistic", unfollowed := true, recurses := true, apart := false }
def ReceiverlogOptimisticSaid : Prop := receiverlogOptimisticRow.holds Try.pinned (OpenSpec.ofChange receiverlogOptimisticSpec)

/-- ITS FALSE NEIGHBOUR: 'it returns false'. Refute it at one input. -/
def receiverlogOptimisticWrong : ChangeSpec := { name := "receiverlogOptimistic", fn := fun _ => fun
  | [d] => { results := [.lit (.bool false)], args := [d] }
  | _ => none }
def ReceiverlogOptimisticWrongFalsely : Prop := receiverlogOptimisticRow.holds Try.pinned (OpenSpec.ofChange receiverlogOptimisticWrong)

/-- 'rollbacknetlaw30.ReceiverlogCounts': WHATEVER THE INPUT: true; the input reads as it did. -/
def receiverlogCountsSpec : ChangeSpec := { name := "receiverlogCounts", fn := fun _ => fun
  | [d1, d2, d3, d4] => { results := [.lit (.bool true)], args := [d1, d2, d3, d4] }
  | _ => none }
def receiverlogCountsRow : OpenClaim := { program := "ytjcfnpmgklliiaa", sum := "f4d65616fb9d23f0093c36d1ef0e233ca98fe9df5f2868232a0bc8d56712cbc8", func := "rollbacknet/rollbacknetlaw30.ReceiverlogCounts", spec := "receiverlogCounts", unfollowed := true, recurses := true, apart := false }
def ReceiverlogCountsSaid : Prop := receiverlogCountsRow.holds Try.pinned (OpenSpec.ofChange receiverlogCountsSpec)

/-- ITS FALSE NEIGHBOUR: 'it returns false'. Refute it at one input. -/
def receiverlogCountsWrong : ChangeSpec := { name := "receiverlogCounts", fn := fun _ => fun
  | [d1, d2, d3, d4] => { results := [.lit (.bool false)], args := [d1, d2, d3, d4] }
  | _ => none }
def ReceiverlogCountsWrongFalsely : Prop := receiverlogCountsRow.holds Try.pinned (OpenSpec.ofChange receiverlogCountsWrong)

/- THE SECOND FORM. 'bulk': how many values and letters a reading holds, each counted each time it is reached (what is shared counts as often as it is met; a slice's spare places count too). A statement '..UptoSaid' is the law's where the arguments, and the package variables that the reading takes, are together of bulk at most 1048576: NARROWER than '..Said'. Prove '..Said' where nothing that the law and all that it calls make is longer than what came in: it says more and counts as full. Else prove '..UptoSaid'. A law counts once. -/
mutual
def uptoBulk {H : Type} : DataW H → Nat
  | .lit (.string bytes) => bytes.length + 1
  | .lit _ => 1
  | .nil => 1
  | .ptr d => uptoBulk d + 1
  | .slice elems spare => uptoBulkAll elems + uptoBulkAll spare + 1
  | .agg parts => uptoBulkAll parts + 1
  | .iface _ d => uptoBulk d + 1
  | .map entries => uptoBulkEntries entries + 1
  | .held _ => 1
def uptoBulkAll {H : Type} : List (DataW H) → Nat
  | [] => 0
  | d :: r => uptoBulk d + uptoBulkAll r
def uptoBulkEntries {H : Type} : List (Lit × DataW H) → Nat
  | [] => 0
  | x :: r => uptoBulkEntry x + uptoBulkEntries r
def uptoBulkEntry {H : Type} : Lit × DataW H → Nat
  | (.string bytes, d) => bytes.length + uptoBulk d + 1
  | (_, d) => uptoBulk d + 1
 end
def uptoSmall : (H : Type) → List (DataW H) → Bool := fun _ ds => decide (uptoBulkAll ds ≤ 1048576)
def OpenSpec.upto (s : _root_.Go.ChangeSpec) : _root_.Go.OpenSpec := { _root_.Go.OpenSpec.ofChange s with cond := some uptoSmall }

/-- 'rollbacknetlaw12.WalOpens', WHERE WHAT IT READS IS OF BULK AT MOST 1048576: true; the input reads as it did. -/
def walOpensUptoRow : OpenClaim := { program := "ytjcfnpmgklliiaa", sum := "f4d65616fb9d23f0093c36d1ef0e233ca98fe9df5f2868232a0bc8d56712cbc8", func := "rollbacknet/rollbacknetlaw12.WalOpens", spec := "walOpens", unfollowed := true, recurses := true, apart := false, narrowed := true }
def WalOpensUptoSaid : Prop := walOpensUptoRow.holds Try.pinned (OpenSpec.upto walOpensSpec)

/-- 'rollbacknetlaw12.WalWrites', WHERE WHAT IT READS IS OF BULK AT MOST 1048576: true; the input reads as it did. -/
def walWritesUptoRow : OpenClaim := { program := "ytjcfnpmgklliiaa", sum := "f4d65616fb9d23f0093c36d1ef0e233ca98fe9df5f2868232a0bc8d56712cbc8", func := "rollbacknet/rollbacknetlaw12.WalWrites", spec := "walWrites", unfollowed := true, recurses := true, apart := false, narrowed := true }
def WalWritesUptoSaid : Prop := walWritesUptoRow.holds Try.pinned (OpenSpec.upto walWritesSpec)

/-- 'rollbacknetlaw12.WalAgain', WHERE WHAT IT READS IS OF BULK AT MOST 1048576: true; the input reads as it did. -/
def walAgainUptoRow : OpenClaim := { program := "ytjcfnpmgklliiaa", sum := "f4d65616fb9d23f0093c36d1ef0e233ca98fe9df5f2868232a0bc8d56712cbc8", func := "rollbacknet/rollbacknetlaw12.WalAgain", spec := "walAgain", unfollowed := true, recurses := true, apart := false, narrowed := true }
def WalAgainUptoSaid : Prop := walAgainUptoRow.holds Try.pinned (OpenSpec.upto walAgainSpec)

/-- 'rollbacknetlaw12.WalKeeps', WHERE WHAT IT READS IS OF BULK AT MOST 1048576: true; the input reads as it did. -/
def walKeepsUptoRow : OpenClaim := { program := "ytjcfnpmgklliiaa", sum := "f4d65616fb9d23f0093c36d1ef0e233ca98fe9df5f2868232a0bc8d56712cbc8", func := "rollbacknet/rollbacknetlaw12.WalKeeps", spec := "walKeeps", unfollowed := true, recurses := true, apart := false, narrowed := true }
def WalKeepsUptoSaid : Prop := walKeepsUptoRow.holds Try.pinned (OpenSpec.upto walKeepsSpec)

/-- 'rollbacknetlaw12.WalTorn', WHERE WHAT IT READS IS OF BULK AT MOST 1048576: true; the input reads as it did. -/
def walTornUptoRow : OpenClaim := { program := "ytjcfnpmgklliiaa", sum := "f4d65616fb9d23f0093c36d1ef0e233ca98fe9df5f2868232a0bc8d56712cbc8", func := "rollbacknet/rollbacknetlaw12.WalTorn", spec := "walTorn", unfollowed := true, recurses := true, apart := false, narrowed := true }
def WalTornUptoSaid : Prop := walTornUptoRow.holds Try.pinned (OpenSpec.upto walTornSpec)

/-- 'rollbacknetlaw30.ReceiverlogKeeps', WHERE WHAT IT READS IS OF BULK AT MOST 1048576: true; the input reads as it did. -/
def receiverlogKeepsUptoRow : OpenClaim := { program := "ytjcfnpmgklliiaa", sum := "f4d65616fb9d23f0093c36d1ef0e233ca98fe9df5f2868232a0bc8d56712cbc8", func := "rollbacknet/rollbacknetlaw30.ReceiverlogKeeps", spec := "receiverlogKeeps", unfollowed := true, recurses := true, apart := false, narrowed := true }
def ReceiverlogKeepsUptoSaid : Prop := receiverlogKeepsUptoRow.holds Try.pinned (OpenSpec.upto receiverlogKeepsSpec)

/-- 'rollbacknetlaw30.ReceiverlogPlays', WHERE WHAT IT READS IS OF BULK AT MOST 1048576: true; the input reads as it did. -/
def receiverlogPlaysUptoRow : OpenClaim := { program := "ytjcfnpmgklliiaa", sum := "f4d65616fb9d23f0093c36d1ef0e233ca98fe9df5f2868232a0bc8d56712cbc8", func := "rollbacknet/rollbacknetlaw30.ReceiverlogPlays", spec := "receiverlogPlays", unfollowed := true, recurses := true, apart := false, narrowed := true }
def ReceiverlogPlaysUptoSaid : Prop := receiverlogPlaysUptoRow.holds Try.pinned (OpenSpec.upto receiverlogPlaysSpec)

/-- 'rollbacknetlaw30.ReceiverlogPessimistic', WHERE WHAT IT READS IS OF BULK AT MOST 1048576: true; the input reads as it did. -/
def receiverlogPessimisticUptoRow : OpenClaim := { program := "ytjcfnpmgklliiaa", sum := "f4d65616fb9d23f0093c36d1ef0e233ca98fe9df5f2868232a0bc8d56712cbc8", func := "rollbacknet/rollbacknetlaw30.ReceiverlogPessimistic", spec := "receiverlogPessimistic", unfollowed := true, recurses := true, apart := false, narrowed := true }
def ReceiverlogPessimisticUptoSaid : Prop := receiverlogPessimisticUptoRow.holds Try.pinned (OpenSpec.upto receiverlogPessimisticSpec)

/-- 'rollbacknetlaw30.ReceiverlogOptimistic', WHERE WHAT IT READS IS OF BULK AT MOST 1048576: true; the input reads as it did. -/
def receiverlogOptimisticUptoRow : OpenClaim := { program := "ytjcfnpmgklliiaa", sum := "f4d65616fb9d23f0093c36d1ef0e233ca98fe9df5f2868232a0bc8d56712cbc8", func := "rollbacknet/rollbacknetlaw30.ReceiverlogOptimistic", spec := "receiverlogOptimistic", unfollowed := true, recurses := true, apart := false, narrowed := true }
def ReceiverlogOptimisticUptoSaid : Prop := receiverlogOptimisticUptoRow.holds Try.pinned (OpenSpec.upto receiverlogOptimisticSpec)

/-- 'rollbacknetlaw30.ReceiverlogCounts', WHERE WHAT IT READS IS OF BULK AT MOST 1048576: true; the input reads as it did. -/
def receiverlogCountsUptoRow : OpenClaim := { program := "ytjcfnpmgklliiaa", sum := "f4d65616fb9d23f0093c36d1ef0e233ca98fe9df5f2868232a0bc8d56712cbc8", func := "rollbacknet/rollbacknetlaw30.ReceiverlogCounts", spec := "receiverlogCounts", unfollowed := true, recurses := true, apart := false, narrowed := true }
def ReceiverlogCountsUptoSaid : Prop := receiverlogCountsUptoRow.holds Try.pinned (OpenSpec.upto receiverlogCountsSpec)

end Rows
end Go.Proofs.Ytjcfnpmgklliiaa
