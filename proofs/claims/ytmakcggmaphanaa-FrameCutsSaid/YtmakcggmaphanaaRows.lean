/-
  No cell of these rows narrows 'for every input' (looked for: loops, veiled, ifaces, maps, wideKeys, modest, calm, conditions, laid).
  DERIVED. THE GIVEN ROWS OF THIS SEAT. 10 by the template 'for every input the law returns true; each argument reads behind the call as it read before'; 0 by the template 'total and deterministic' (their statements: YtmakcggmaphanaaTotals.lean).
  GIVEN WITH THE SEED: the statements are not yours to turn. If you find one false, say at which input.
  Laid BY PROGRAM, IN A SANDBOX (cutbox-rows.mjs): the forced cells as the released guide's own fill.sh prints them over the translation aa3586b163d8d29c… (all of the seat's roots in one cut). By AI agents, Wed Nov 11 2026. No macro, syntax, notation, axiom, sorry.
-/
import Derived.Test.YtmakcggmaphanaaChecked
import GoSem.Claim
import GoSem.ClaimJoined
import GoSem.ClaimMapViews
import Derived.JoinedTies
import Derived.KernelRfl
namespace Go.Proofs.Ytmakcggmaphanaa
/- THE CELL 'sum', in the pinned program and in every row, IS THE sha256 OF THE DUMP (.gsa) THAT YtmakcggmaphanaaProg.lean LOADS. Nothing in Lean hashes anything: it is a label: what it is worth is what the hold of that sum in a sandbox is worth. -/
noncomputable def Try.pinned : Pinned := { name := "ytmakcggmaphanaa", sum := "aa3586b163d8d29c4f5e1b2c522c8afc08ad49a5f3b33c561b0c7ca37b8f8b58", checked := Try.checked }
namespace Rows
def none {H : Type} : Left H := { results := [], args := [] }

/-- 'rollbacknetlaw09.CrcSums': WHATEVER THE INPUT: true; the input reads as it did. -/
def crcSumsSpec : ChangeSpec := { name := "crcSums", fn := fun _ => fun
  | [d1, d2] => { results := [.lit (.bool true)], args := [d1, d2] }
  | _ => none }
def crcSumsRow : OpenClaim := { program := "ytmakcggmaphanaa", sum := "aa3586b163d8d29c4f5e1b2c522c8afc08ad49a5f3b33c561b0c7ca37b8f8b58", func := "rollbacknet/rollbacknetlaw09.CrcSums", spec := "crcSums", apart := false }
def CrcSumsSaid : Prop := crcSumsRow.holds Try.pinned (OpenSpec.ofChange crcSumsSpec)

/-- ITS FALSE NEIGHBOUR: 'it returns false'. Refute it at one input. -/
def crcSumsWrong : ChangeSpec := { name := "crcSums", fn := fun _ => fun
  | [d1, d2] => { results := [.lit (.bool false)], args := [d1, d2] }
  | _ => none }
def CrcSumsWrongFalsely : Prop := crcSumsRow.holds Try.pinned (OpenSpec.ofChange crcSumsWrong)

/-- 'rollbacknetlaw09.CrcJoins': WHATEVER THE INPUT: true; the input reads as it did. -/
def crcJoinsSpec : ChangeSpec := { name := "crcJoins", fn := fun _ => fun
  | [d1, d2, d3] => { results := [.lit (.bool true)], args := [d1, d2, d3] }
  | _ => none }
def crcJoinsRow : OpenClaim := { program := "ytmakcggmaphanaa", sum := "aa3586b163d8d29c4f5e1b2c522c8afc08ad49a5f3b33c561b0c7ca37b8f8b58", func := "rollbacknet/rollbacknetlaw09.CrcJoins", spec := "crcJoins", apart := false }
def CrcJoinsSaid : Prop := crcJoinsRow.holds Try.pinned (OpenSpec.ofChange crcJoinsSpec)

/-- ITS FALSE NEIGHBOUR: 'it returns false'. Refute it at one input. -/
def crcJoinsWrong : ChangeSpec := { name := "crcJoins", fn := fun _ => fun
  | [d1, d2, d3] => { results := [.lit (.bool false)], args := [d1, d2, d3] }
  | _ => none }
def CrcJoinsWrongFalsely : Prop := crcJoinsRow.holds Try.pinned (OpenSpec.ofChange crcJoinsWrong)

/-- 'rollbacknetlaw09.CrcXors': WHATEVER THE INPUT: true; the input reads as it did. -/
def crcXorsSpec : ChangeSpec := { name := "crcXors", fn := fun _ => fun
  | [d1, d2, d3] => { results := [.lit (.bool true)], args := [d1, d2, d3] }
  | _ => none }
def crcXorsRow : OpenClaim := { program := "ytmakcggmaphanaa", sum := "aa3586b163d8d29c4f5e1b2c522c8afc08ad49a5f3b33c561b0c7ca37b8f8b58", func := "rollbacknet/rollbacknetlaw09.CrcXors", spec := "crcXors", apart := false }
def CrcXorsSaid : Prop := crcXorsRow.holds Try.pinned (OpenSpec.ofChange crcXorsSpec)

/-- ITS FALSE NEIGHBOUR: 'it returns false'. Refute it at one input. -/
def crcXorsWrong : ChangeSpec := { name := "crcXors", fn := fun _ => fun
  | [d1, d2, d3] => { results := [.lit (.bool false)], args := [d1, d2, d3] }
  | _ => none }
def CrcXorsWrongFalsely : Prop := crcXorsRow.holds Try.pinned (OpenSpec.ofChange crcXorsWrong)

/-- 'rollbacknetlaw09.CrcBursts': WHATEVER THE INPUT: true; the input reads as it did. -/
def crcBurstsSpec : ChangeSpec := { name := "crcBursts", fn := fun _ => fun
  | [d1, d2, d3] => { results := [.lit (.bool true)], args := [d1, d2, d3] }
  | _ => none }
def crcBurstsRow : OpenClaim := { program := "ytmakcggmaphanaa", sum := "aa3586b163d8d29c4f5e1b2c522c8afc08ad49a5f3b33c561b0c7ca37b8f8b58", func := "rollbacknet/rollbacknetlaw09.CrcBursts", spec := "crcBursts", apart := false }
def CrcBurstsSaid : Prop := crcBurstsRow.holds Try.pinned (OpenSpec.ofChange crcBurstsSpec)

/-- ITS FALSE NEIGHBOUR: 'it returns false'. Refute it at one input. -/
def crcBurstsWrong : ChangeSpec := { name := "crcBursts", fn := fun _ => fun
  | [d1, d2, d3] => { results := [.lit (.bool false)], args := [d1, d2, d3] }
  | _ => none }
def CrcBurstsWrongFalsely : Prop := crcBurstsRow.holds Try.pinned (OpenSpec.ofChange crcBurstsWrong)

/-- 'rollbacknetlaw11.FrameSeals': WHATEVER THE INPUT: true; the input reads as it did. -/
def frameSealsSpec : ChangeSpec := { name := "frameSeals", fn := fun _ => fun
  | [d1, d2] => { results := [.lit (.bool true)], args := [d1, d2] }
  | _ => none }
def frameSealsRow : OpenClaim := { program := "ytmakcggmaphanaa", sum := "aa3586b163d8d29c4f5e1b2c522c8afc08ad49a5f3b33c561b0c7ca37b8f8b58", func := "rollbacknet/rollbacknetlaw11.FrameSeals", spec := "frameSeals", apart := false }
def FrameSealsSaid : Prop := frameSealsRow.holds Try.pinned (OpenSpec.ofChange frameSealsSpec)

/-- ITS FALSE NEIGHBOUR: 'it returns false'. Refute it at one input. -/
def frameSealsWrong : ChangeSpec := { name := "frameSeals", fn := fun _ => fun
  | [d1, d2] => { results := [.lit (.bool false)], args := [d1, d2] }
  | _ => none }
def FrameSealsWrongFalsely : Prop := frameSealsRow.holds Try.pinned (OpenSpec.ofChange frameSealsWrong)

/-- 'rollbacknetlaw11.FrameNexts': WHATEVER THE INPUT: true; the input reads as it did. -/
def frameNextsSpec : ChangeSpec := { name := "frameNexts", fn := fun _ => fun
  | [d1, d2, d3, d4, d5] => { results := [.lit (.bool true)], args := [d1, d2, d3, d4, d5] }
  | _ => none }
def frameNextsRow : OpenClaim := { program := "ytmakcggmaphanaa", sum := "aa3586b163d8d29c4f5e1b2c522c8afc08ad49a5f3b33c561b0c7ca37b8f8b58", func := "rollbacknet/rollbacknetlaw11.FrameNexts", spec := "frameNexts", apart := false }
def FrameNextsSaid : Prop := frameNextsRow.holds Try.pinned (OpenSpec.ofChange frameNextsSpec)

/-- ITS FALSE NEIGHBOUR: 'it returns false'. Refute it at one input. -/
def frameNextsWrong : ChangeSpec := { name := "frameNexts", fn := fun _ => fun
  | [d1, d2, d3, d4, d5] => { results := [.lit (.bool false)], args := [d1, d2, d3, d4, d5] }
  | _ => none }
def FrameNextsWrongFalsely : Prop := frameNextsRow.holds Try.pinned (OpenSpec.ofChange frameNextsWrong)

/-- 'rollbacknetlaw11.FrameFinds': WHATEVER THE INPUT: true; the input reads as it did. -/
def frameFindsSpec : ChangeSpec := { name := "frameFinds", fn := fun _ => fun
  | [d1, d2, d3] => { results := [.lit (.bool true)], args := [d1, d2, d3] }
  | _ => none }
def frameFindsRow : OpenClaim := { program := "ytmakcggmaphanaa", sum := "aa3586b163d8d29c4f5e1b2c522c8afc08ad49a5f3b33c561b0c7ca37b8f8b58", func := "rollbacknet/rollbacknetlaw11.FrameFinds", spec := "frameFinds", apart := false }
def FrameFindsSaid : Prop := frameFindsRow.holds Try.pinned (OpenSpec.ofChange frameFindsSpec)

/-- ITS FALSE NEIGHBOUR: 'it returns false'. Refute it at one input. -/
def frameFindsWrong : ChangeSpec := { name := "frameFinds", fn := fun _ => fun
  | [d1, d2, d3] => { results := [.lit (.bool false)], args := [d1, d2, d3] }
  | _ => none }
def FrameFindsWrongFalsely : Prop := frameFindsRow.holds Try.pinned (OpenSpec.ofChange frameFindsWrong)

/-- 'rollbacknetlaw11.FrameScans': WHATEVER THE INPUT: true; the input reads as it did. -/
def frameScansSpec : ChangeSpec := { name := "frameScans", fn := fun _ => fun
  | [d1, d2, d3] => { results := [.lit (.bool true)], args := [d1, d2, d3] }
  | _ => none }
def frameScansRow : OpenClaim := { program := "ytmakcggmaphanaa", sum := "aa3586b163d8d29c4f5e1b2c522c8afc08ad49a5f3b33c561b0c7ca37b8f8b58", func := "rollbacknet/rollbacknetlaw11.FrameScans", spec := "frameScans", unfollowed := true, recurses := true, apart := false }
def FrameScansSaid : Prop := frameScansRow.holds Try.pinned (OpenSpec.ofChange frameScansSpec)

/-- ITS FALSE NEIGHBOUR: 'it returns false'. Refute it at one input. -/
def frameScansWrong : ChangeSpec := { name := "frameScans", fn := fun _ => fun
  | [d1, d2, d3] => { results := [.lit (.bool false)], args := [d1, d2, d3] }
  | _ => none }
def FrameScansWrongFalsely : Prop := frameScansRow.holds Try.pinned (OpenSpec.ofChange frameScansWrong)

/-- 'rollbacknetlaw11.FrameBack': WHATEVER THE INPUT: true; the input reads as it did. -/
def frameBackSpec : ChangeSpec := { name := "frameBack", fn := fun _ => fun
  | [d1, d2] => { results := [.lit (.bool true)], args := [d1, d2] }
  | _ => none }
def frameBackRow : OpenClaim := { program := "ytmakcggmaphanaa", sum := "aa3586b163d8d29c4f5e1b2c522c8afc08ad49a5f3b33c561b0c7ca37b8f8b58", func := "rollbacknet/rollbacknetlaw11.FrameBack", spec := "frameBack", unfollowed := true, recurses := true, apart := false }
def FrameBackSaid : Prop := frameBackRow.holds Try.pinned (OpenSpec.ofChange frameBackSpec)

/-- ITS FALSE NEIGHBOUR: 'it returns false'. Refute it at one input. -/
def frameBackWrong : ChangeSpec := { name := "frameBack", fn := fun _ => fun
  | [d1, d2] => { results := [.lit (.bool false)], args := [d1, d2] }
  | _ => none }
def FrameBackWrongFalsely : Prop := frameBackRow.holds Try.pinned (OpenSpec.ofChange frameBackWrong)

/-- 'rollbacknetlaw11.FrameCuts': WHATEVER THE INPUT: true; the input reads as it did. -/
def frameCutsSpec : ChangeSpec := { name := "frameCuts", fn := fun _ => fun
  | [d1, d2] => { results := [.lit (.bool true)], args := [d1, d2] }
  | _ => none }
def frameCutsRow : OpenClaim := { program := "ytmakcggmaphanaa", sum := "aa3586b163d8d29c4f5e1b2c522c8afc08ad49a5f3b33c561b0c7ca37b8f8b58", func := "rollbacknet/rollbacknetlaw11.FrameCuts", spec := "frameCuts", unfollowed := true, recurses := true, apart := false }
def FrameCutsSaid : Prop := frameCutsRow.holds Try.pinned (OpenSpec.ofChange frameCutsSpec)

/-- ITS FALSE NEIGHBOUR: 'it returns false'. Refute it at one input. -/
def frameCutsWrong : ChangeSpec := { name := "frameCuts", fn := fun _ => fun
  | [d1, d2] => { results := [.lit (.bool false)], args := [d1, d2] }
  | _ => none }
def FrameCutsWrongFalsely : Prop := frameCutsRow.holds Try.pinned (OpenSpec.ofChange frameCutsWrong)

/- THE SECOND FORM. 'bulk': how many values and letters a reading holds, each counted each time it is reached (what is shared counts as often as it is met; a slice's spare places count too). A statement '..UptoSaid' is the law's where the arguments, and the package variables that the reading takes, are together of bulk at most 1048576: NARROWER than '..Said'. Prove '..Said' where nothing that the law and all that it calls make is longer than what came in: it says more and counts as full. Else prove '..UptoSaid'. A law counts once. -/
mutual
def uptoBulk {H : Type} : DataW H → Nat
  | .lit (.string bytes) => bytes.length + 1
  | .lit _ => 1
  | .nil => 1
  | .ptr d => uptoBulk d + 1
  | .slice elems spare => uptoBulkAll elems + uptoBulkAll spare + 1
  | .agg parts => uptoBulkAll parts + 1
  | .iface _ d => uptoBulk d + 1
  | .map entries => uptoBulkEntries entries + 1
  | .held _ => 1
def uptoBulkAll {H : Type} : List (DataW H) → Nat
  | [] => 0
  | d :: r => uptoBulk d + uptoBulkAll r
def uptoBulkEntries {H : Type} : List (Lit × DataW H) → Nat
  | [] => 0
  | x :: r => uptoBulkEntry x + uptoBulkEntries r
def uptoBulkEntry {H : Type} : Lit × DataW H → Nat
  | (.string bytes, d) => bytes.length + uptoBulk d + 1
  | (_, d) => uptoBulk d + 1
 end
def uptoSmall : (H : Type) → List (DataW H) → Bool := fun _ ds => decide (uptoBulkAll ds ≤ 1048576)
def OpenSpec.upto (s : _root_.Go.ChangeSpec) : _root_.Go.OpenSpec := { _root_.Go.OpenSpec.ofChange s with cond := some uptoSmall }

/-- 'rollbacknetlaw09.CrcSums', WHERE WHAT IT READS IS OF BULK AT MOST 1048576: true; the input reads as it did. -/
def crcSumsUptoRow : OpenClaim := { program := "ytmakcggmaphanaa", sum := "aa3586b163d8d29c4f5e1b2c522c8afc08ad49a5f3b33c561b0c7ca37b8f8b58", func := "rollbacknet/rollbacknetlaw09.CrcSums", spec := "crcSums", apart := false, narrowed := true }
def CrcSumsUptoSaid : Prop := crcSumsUptoRow.holds Try.pinned (OpenSpec.upto crcSumsSpec)

/-- 'rollbacknetlaw09.CrcJoins', WHERE WHAT IT READS IS OF BULK AT MOST 1048576: true; the input reads as it did. -/
def crcJoinsUptoRow : OpenClaim := { program := "ytmakcggmaphanaa", sum := "aa3586b163d8d29c4f5e1b2c522c8afc08ad49a5f3b33c561b0c7ca37b8f8b58", func := "rollbacknet/rollbacknetlaw09.CrcJoins", spec := "crcJoins", apart := false, narrowed := true }
def CrcJoinsUptoSaid : Prop := crcJoinsUptoRow.holds Try.pinned (OpenSpec.upto crcJoinsSpec)

/-- 'rollbacknetlaw09.CrcXors', WHERE WHAT IT READS IS OF BULK AT MOST 1048576: true; the input reads as it did. -/
def crcXorsUptoRow : OpenClaim := { program := "ytmakcggmaphanaa", sum := "aa3586b163d8d29c4f5e1b2c522c8afc08ad49a5f3b33c561b0c7ca37b8f8b58", func := "rollbacknet/rollbacknetlaw09.CrcXors", spec := "crcXors", apart := false, narrowed := true }
def CrcXorsUptoSaid : Prop := crcXorsUptoRow.holds Try.pinned (OpenSpec.upto crcXorsSpec)

/-- 'rollbacknetlaw09.CrcBursts', WHERE WHAT IT READS IS OF BULK AT MOST 1048576: true; the input reads as it did. -/
def crcBurstsUptoRow : OpenClaim := { program := "ytmakcggmaphanaa", sum := "aa3586b163d8d29c4f5e1b2c522c8afc08ad49a5f3b33c561b0c7ca37b8f8b58", func := "rollbacknet/rollbacknetlaw09.CrcBursts", spec := "crcBursts", apart := false, narrowed := true }
def CrcBurstsUptoSaid : Prop := crcBurstsUptoRow.holds Try.pinned (OpenSpec.upto crcBurstsSpec)

/-- 'rollbacknetlaw11.FrameSeals', WHERE WHAT IT READS IS OF BULK AT MOST 1048576: true; the input reads as it did. -/
def frameSealsUptoRow : OpenClaim := { program := "ytmakcggmaphanaa", sum := "aa3586b163d8d29c4f5e1b2c522c8afc08ad49a5f3b33c561b0c7ca37b8f8b58", func := "rollbacknet/rollbacknetlaw11.FrameSeals", spec := "frameSeals", apart := false, narrowed := true }
def FrameSealsUptoSaid : Prop := frameSealsUptoRow.holds Try.pinned (OpenSpec.upto frameSealsSpec)

/-- 'rollbacknetlaw11.FrameNexts', WHERE WHAT IT READS IS OF BULK AT MOST 1048576: true; the input reads as it did. -/
def frameNextsUptoRow : OpenClaim := { program := "ytmakcggmaphanaa", sum := "aa3586b163d8d29c4f5e1b2c522c8afc08ad49a5f3b33c561b0c7ca37b8f8b58", func := "rollbacknet/rollbacknetlaw11.FrameNexts", spec := "frameNexts", apart := false, narrowed := true }
def FrameNextsUptoSaid : Prop := frameNextsUptoRow.holds Try.pinned (OpenSpec.upto frameNextsSpec)

/-- 'rollbacknetlaw11.FrameFinds', WHERE WHAT IT READS IS OF BULK AT MOST 1048576: true; the input reads as it did. -/
def frameFindsUptoRow : OpenClaim := { program := "ytmakcggmaphanaa", sum := "aa3586b163d8d29c4f5e1b2c522c8afc08ad49a5f3b33c561b0c7ca37b8f8b58", func := "rollbacknet/rollbacknetlaw11.FrameFinds", spec := "frameFinds", apart := false, narrowed := true }
def FrameFindsUptoSaid : Prop := frameFindsUptoRow.holds Try.pinned (OpenSpec.upto frameFindsSpec)

/-- 'rollbacknetlaw11.FrameScans', WHERE WHAT IT READS IS OF BULK AT MOST 1048576: true; the input reads as it did. -/
def frameScansUptoRow : OpenClaim := { program := "ytmakcggmaphanaa", sum := "aa3586b163d8d29c4f5e1b2c522c8afc08ad49a5f3b33c561b0c7ca37b8f8b58", func := "rollbacknet/rollbacknetlaw11.FrameScans", spec := "frameScans", unfollowed := true, recurses := true, apart := false, narrowed := true }
def FrameScansUptoSaid : Prop := frameScansUptoRow.holds Try.pinned (OpenSpec.upto frameScansSpec)

/-- 'rollbacknetlaw11.FrameBack', WHERE WHAT IT READS IS OF BULK AT MOST 1048576: true; the input reads as it did. -/
def frameBackUptoRow : OpenClaim := { program := "ytmakcggmaphanaa", sum := "aa3586b163d8d29c4f5e1b2c522c8afc08ad49a5f3b33c561b0c7ca37b8f8b58", func := "rollbacknet/rollbacknetlaw11.FrameBack", spec := "frameBack", unfollowed := true, recurses := true, apart := false, narrowed := true }
def FrameBackUptoSaid : Prop := frameBackUptoRow.holds Try.pinned (OpenSpec.upto frameBackSpec)

/-- 'rollbacknetlaw11.FrameCuts', WHERE WHAT IT READS IS OF BULK AT MOST 1048576: true; the input reads as it did. -/
def frameCutsUptoRow : OpenClaim := { program := "ytmakcggmaphanaa", sum := "aa3586b163d8d29c4f5e1b2c522c8afc08ad49a5f3b33c561b0c7ca37b8f8b58", func := "rollbacknet/rollbacknetlaw11.FrameCuts", spec := "frameCuts", unfollowed := true, recurses := true, apart := false, narrowed := true }
def FrameCutsUptoSaid : Prop := frameCutsUptoRow.holds Try.pinned (OpenSpec.upto frameCutsSpec)

end Rows
end Go.Proofs.Ytmakcggmaphanaa
