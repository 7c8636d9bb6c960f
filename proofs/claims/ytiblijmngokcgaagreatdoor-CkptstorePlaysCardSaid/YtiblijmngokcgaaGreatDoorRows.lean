/-
  NARROWER THAN 'FOR EVERY INPUT', by the rows' own cells (each row's printed sentence says how): CkptstorePlays: laid · CkptstoreTorn: laid · CodecSpoilt: laid · CkptstoreCheap: laid · CkptstoreDrops: laid · CkptstoreBack: laid.
  DERIVED. THE GIVEN ROWS OF THIS SEAT. 6 by the template 'for every input the law returns true; each argument reads behind the call as it read before'; 0 by the template 'total and deterministic' (their statements: YtiblijmngokcgaaGreatDoorTotals.lean).
  GIVEN WITH THE SEED: the statements are not yours to turn. If you find one false, say at which input.
  Laid BY PROGRAM, IN A SANDBOX (cutbox-rows.mjs): the forced cells as the released guide's own fill.sh prints them over the translation c238fc7930ede6ce… (all of the seat's roots in one cut). By AI agents, Wed Nov 11 2026. No macro, syntax, notation, axiom, sorry.
-/
import Derived.Test.YtiblijmngokcgaaGreatDoorChecked
import GoSem.Claim
import GoSem.ClaimJoined
import GoSem.ClaimMapViews
import Derived.JoinedTies
import Derived.KernelRfl
namespace Go.Proofs.YtiblijmngokcgaaGreatDoor
/- THE CELL 'sum', in the pinned program and in every row, IS THE sha256 OF THE DUMP (.gsa) THAT YtiblijmngokcgaaGreatDoorProg.lean LOADS. Nothing in Lean hashes anything: it is a label: what it is worth is what the hold of that sum in a sandbox is worth. -/
noncomputable def Tryz.pinned : Pinned := { name := "ytiblijmngokcgaagreatdoor", sum := "c238fc7930ede6ce70dbff74893eb784b233f7d03f213e7a7d2bf7b6141be128", checked := Tryz.checked }
namespace Rows
def none {H : Type} : Left H := { results := [], args := [] }

/- WHAT THE LISTED PACKAGE-LEVEL VARIABLES READ AS WHEN THE CALL BEGINS. Each datum BY PROGRAM (the guide's laid-datum.mjs) off the statement by which the dump's own 'gosem.cut.vars' lays the variable. In a bare row this is a premise. The card (YtiblijmngokcgaaGreatDoorCards.lean) ties it to the program's text. -/
def laid_rollbacknet_rollbacknetmake_scalars {H : Type} : DataW H := .agg [.lit (.string [120]), .lit (.string [121]), .lit (.string [122])]
def laid_rollbacknet_rollbacknetmake_arrays {H : Type} : DataW H := .agg [.lit (.string [97]), .lit (.string [98])]

/-- 'rollbacknetlaw13.CkptstorePlays': WHATEVER THE INPUT: true; the input reads as it did. -/
def ckptstorePlaysSpec : ChangeSpec := { name := "ckptstorePlays", fn := fun _ => fun
  | [d1, d2, d3] => { results := [.lit (.bool true)], args := [d1, d2, d3] }
  | _ => none }
def ckptstorePlaysRow : OpenClaim := { program := "ytiblijmngokcgaagreatdoor", sum := "c238fc7930ede6ce70dbff74893eb784b233f7d03f213e7a7d2bf7b6141be128", func := "rollbacknet/rollbacknetlaw13.CkptstorePlays", spec := "ckptstorePlays", unfollowed := true, recurses := true, named := ["rollbacknet/rollbacknetmake.scalars", "rollbacknet/rollbacknetmake.arrays"], apart := false, laid := [("rollbacknet/rollbacknetmake.scalars", laid_rollbacknet_rollbacknetmake_scalars), ("rollbacknet/rollbacknetmake.arrays", laid_rollbacknet_rollbacknetmake_arrays)] }
def CkptstorePlaysSaid : Prop := ckptstorePlaysRow.holds Tryz.pinned (OpenSpec.ofChange ckptstorePlaysSpec)

/-- ITS FALSE NEIGHBOUR: 'it returns false'. Refute it at one input. -/
def ckptstorePlaysWrong : ChangeSpec := { name := "ckptstorePlays", fn := fun _ => fun
  | [d1, d2, d3] => { results := [.lit (.bool false)], args := [d1, d2, d3] }
  | _ => none }
def CkptstorePlaysWrongFalsely : Prop := ckptstorePlaysRow.holds Tryz.pinned (OpenSpec.ofChange ckptstorePlaysWrong)

/-- 'rollbacknetlaw13.CkptstoreTorn': WHATEVER THE INPUT: true; the input reads as it did. -/
def ckptstoreTornSpec : ChangeSpec := { name := "ckptstoreTorn", fn := fun _ => fun
  | [d1, d2] => { results := [.lit (.bool true)], args := [d1, d2] }
  | _ => none }
def ckptstoreTornRow : OpenClaim := { program := "ytiblijmngokcgaagreatdoor", sum := "c238fc7930ede6ce70dbff74893eb784b233f7d03f213e7a7d2bf7b6141be128", func := "rollbacknet/rollbacknetlaw13.CkptstoreTorn", spec := "ckptstoreTorn", unfollowed := true, recurses := true, named := ["rollbacknet/rollbacknetmake.scalars", "rollbacknet/rollbacknetmake.arrays"], apart := false, laid := [("rollbacknet/rollbacknetmake.scalars", laid_rollbacknet_rollbacknetmake_scalars), ("rollbacknet/rollbacknetmake.arrays", laid_rollbacknet_rollbacknetmake_arrays)] }
def CkptstoreTornSaid : Prop := ckptstoreTornRow.holds Tryz.pinned (OpenSpec.ofChange ckptstoreTornSpec)

/-- ITS FALSE NEIGHBOUR: 'it returns false'. Refute it at one input. -/
def ckptstoreTornWrong : ChangeSpec := { name := "ckptstoreTorn", fn := fun _ => fun
  | [d1, d2] => { results := [.lit (.bool false)], args := [d1, d2] }
  | _ => none }
def CkptstoreTornWrongFalsely : Prop := ckptstoreTornRow.holds Tryz.pinned (OpenSpec.ofChange ckptstoreTornWrong)

/-- 'rollbacknetlaw08.CodecSpoilt': WHATEVER THE INPUT: true; the input reads as it did. -/
def codecSpoiltSpec : ChangeSpec := { name := "codecSpoilt", fn := fun _ => fun
  | [d1, d2, d3, d4] => { results := [.lit (.bool true)], args := [d1, d2, d3, d4] }
  | _ => none }
def codecSpoiltRow : OpenClaim := { program := "ytiblijmngokcgaagreatdoor", sum := "c238fc7930ede6ce70dbff74893eb784b233f7d03f213e7a7d2bf7b6141be128", func := "rollbacknet/rollbacknetlaw08.CodecSpoilt", spec := "codecSpoilt", unfollowed := true, recurses := true, named := ["rollbacknet/rollbacknetmake.scalars", "rollbacknet/rollbacknetmake.arrays"], apart := false, laid := [("rollbacknet/rollbacknetmake.scalars", laid_rollbacknet_rollbacknetmake_scalars), ("rollbacknet/rollbacknetmake.arrays", laid_rollbacknet_rollbacknetmake_arrays)] }
def CodecSpoiltSaid : Prop := codecSpoiltRow.holds Tryz.pinned (OpenSpec.ofChange codecSpoiltSpec)

/-- ITS FALSE NEIGHBOUR: 'it returns false'. Refute it at one input. -/
def codecSpoiltWrong : ChangeSpec := { name := "codecSpoilt", fn := fun _ => fun
  | [d1, d2, d3, d4] => { results := [.lit (.bool false)], args := [d1, d2, d3, d4] }
  | _ => none }
def CodecSpoiltWrongFalsely : Prop := codecSpoiltRow.holds Tryz.pinned (OpenSpec.ofChange codecSpoiltWrong)

/-- 'rollbacknetlaw13.CkptstoreCheap': WHATEVER THE INPUT: true; the input reads as it did. -/
def ckptstoreCheapSpec : ChangeSpec := { name := "ckptstoreCheap", fn := fun _ => fun
  | [d1, d2, d3] => { results := [.lit (.bool true)], args := [d1, d2, d3] }
  | _ => none }
def ckptstoreCheapRow : OpenClaim := { program := "ytiblijmngokcgaagreatdoor", sum := "c238fc7930ede6ce70dbff74893eb784b233f7d03f213e7a7d2bf7b6141be128", func := "rollbacknet/rollbacknetlaw13.CkptstoreCheap", spec := "ckptstoreCheap", unfollowed := true, recurses := true, named := ["rollbacknet/rollbacknetmake.scalars", "rollbacknet/rollbacknetmake.arrays"], apart := false, laid := [("rollbacknet/rollbacknetmake.scalars", laid_rollbacknet_rollbacknetmake_scalars), ("rollbacknet/rollbacknetmake.arrays", laid_rollbacknet_rollbacknetmake_arrays)] }
def CkptstoreCheapSaid : Prop := ckptstoreCheapRow.holds Tryz.pinned (OpenSpec.ofChange ckptstoreCheapSpec)

/-- ITS FALSE NEIGHBOUR: 'it returns false'. Refute it at one input. -/
def ckptstoreCheapWrong : ChangeSpec := { name := "ckptstoreCheap", fn := fun _ => fun
  | [d1, d2, d3] => { results := [.lit (.bool false)], args := [d1, d2, d3] }
  | _ => none }
def CkptstoreCheapWrongFalsely : Prop := ckptstoreCheapRow.holds Tryz.pinned (OpenSpec.ofChange ckptstoreCheapWrong)

/-- 'rollbacknetlaw13.CkptstoreDrops': WHATEVER THE INPUT: true; the input reads as it did. -/
def ckptstoreDropsSpec : ChangeSpec := { name := "ckptstoreDrops", fn := fun _ => fun
  | [d1, d2] => { results := [.lit (.bool true)], args := [d1, d2] }
  | _ => none }
def ckptstoreDropsRow : OpenClaim := { program := "ytiblijmngokcgaagreatdoor", sum := "c238fc7930ede6ce70dbff74893eb784b233f7d03f213e7a7d2bf7b6141be128", func := "rollbacknet/rollbacknetlaw13.CkptstoreDrops", spec := "ckptstoreDrops", unfollowed := true, recurses := true, named := ["rollbacknet/rollbacknetmake.scalars", "rollbacknet/rollbacknetmake.arrays"], apart := false, laid := [("rollbacknet/rollbacknetmake.scalars", laid_rollbacknet_rollbacknetmake_scalars), ("rollbacknet/rollbacknetmake.arrays", laid_rollbacknet_rollbacknetmake_arrays)] }
def CkptstoreDropsSaid : Prop := ckptstoreDropsRow.holds Tryz.pinned (OpenSpec.ofChange ckptstoreDropsSpec)

/-- ITS FALSE NEIGHBOUR: 'it returns false'. Refute it at one input. -/
def ckptstoreDropsWrong : ChangeSpec := { name := "ckptstoreDrops", fn := fun _ => fun
  | [d1, d2] => { results := [.lit (.bool false)], args := [d1, d2] }
  | _ => none }
def CkptstoreDropsWrongFalsely : Prop := ckptstoreDropsRow.holds Tryz.pinned (OpenSpec.ofChange ckptstoreDropsWrong)

/-- 'rollbacknetlaw13.CkptstoreBack': WHATEVER THE INPUT: true; the input reads as it did. -/
def ckptstoreBackSpec : ChangeSpec := { name := "ckptstoreBack", fn := fun _ => fun
  | [d1, d2] => { results := [.lit (.bool true)], args := [d1, d2] }
  | _ => none }
def ckptstoreBackRow : OpenClaim := { program := "ytiblijmngokcgaagreatdoor", sum := "c238fc7930ede6ce70dbff74893eb784b233f7d03f213e7a7d2bf7b6141be128", func := "rollbacknet/rollbacknetlaw13.CkptstoreBack", spec := "ckptstoreBack", unfollowed := true, recurses := true, named := ["rollbacknet/rollbacknetmake.scalars", "rollbacknet/rollbacknetmake.arrays"], apart := false, laid := [("rollbacknet/rollbacknetmake.scalars", laid_rollbacknet_rollbacknetmake_scalars), ("rollbacknet/rollbacknetmake.arrays", laid_rollbacknet_rollbacknetmake_arrays)] }
def CkptstoreBackSaid : Prop := ckptstoreBackRow.holds Tryz.pinned (OpenSpec.ofChange ckptstoreBackSpec)

/-- ITS FALSE NEIGHBOUR: 'it returns false'. Refute it at one input. -/
def ckptstoreBackWrong : ChangeSpec := { name := "ckptstoreBack", fn := fun _ => fun
  | [d1, d2] => { results := [.lit (.bool false)], args := [d1, d2] }
  | _ => none }
def CkptstoreBackWrongFalsely : Prop := ckptstoreBackRow.holds Tryz.pinned (OpenSpec.ofChange ckptstoreBackWrong)

/- THE SECOND FORM. 'bulk': how many values and letters a reading holds, each counted each time it is reached (what is shared counts as often as it is met; a slice's spare places count too). A statement '..UptoSaid' is the law's where the arguments, and the package variables that the reading takes, are together of bulk at most 1048576: NARROWER than '..Said'. Prove '..Said' where nothing that the law and all that it calls make is longer than what came in: it says more and counts as full. Else prove '..UptoSaid'. A law counts once. -/
mutual
def uptoBulk {H : Type} : DataW H → Nat
  | .lit (.string bytes) => bytes.length + 1
  | .lit _ => 1
  | .nil => 1
  | .ptr d => uptoBulk d + 1
  | .slice elems spare => uptoBulkAll elems + uptoBulkAll spare + 1
  | .agg parts => uptoBulkAll parts + 1
  | .iface _ d => uptoBulk d + 1
  | .map entries => uptoBulkEntries entries + 1
  | .held _ => 1
def uptoBulkAll {H : Type} : List (DataW H) → Nat
  | [] => 0
  | d :: r => uptoBulk d + uptoBulkAll r
def uptoBulkEntries {H : Type} : List (Lit × DataW H) → Nat
  | [] => 0
  | x :: r => uptoBulkEntry x + uptoBulkEntries r
def uptoBulkEntry {H : Type} : Lit × DataW H → Nat
  | (.string bytes, d) => bytes.length + uptoBulk d + 1
  | (_, d) => uptoBulk d + 1
 end
def uptoSmall : (H : Type) → List (DataW H) → Bool := fun _ ds => decide (uptoBulkAll ds ≤ 1048576)
def OpenSpec.upto (s : _root_.Go.ChangeSpec) : _root_.Go.OpenSpec := { _root_.Go.OpenSpec.ofChange s with cond := some uptoSmall }

/-- 'rollbacknetlaw13.CkptstorePlays', WHERE WHAT IT READS IS OF BULK AT MOST 1048576: true; the input reads as it did. -/
def ckptstorePlaysUptoRow : OpenClaim := { program := "ytiblijmngokcgaagreatdoor", sum := "c238fc7930ede6ce70dbff74893eb784b233f7d03f213e7a7d2bf7b6141be128", func := "rollbacknet/rollbacknetlaw13.CkptstorePlays", spec := "ckptstorePlays", unfollowed := true, recurses := true, named := ["rollbacknet/rollbacknetmake.scalars", "rollbacknet/rollbacknetmake.arrays"], apart := false, laid := [("rollbacknet/rollbacknetmake.scalars", laid_rollbacknet_rollbacknetmake_scalars), ("rollbacknet/rollbacknetmake.arrays", laid_rollbacknet_rollbacknetmake_arrays)], narrowed := true }
def CkptstorePlaysUptoSaid : Prop := ckptstorePlaysUptoRow.holds Tryz.pinned (OpenSpec.upto ckptstorePlaysSpec)

/-- 'rollbacknetlaw13.CkptstoreTorn', WHERE WHAT IT READS IS OF BULK AT MOST 1048576: true; the input reads as it did. -/
def ckptstoreTornUptoRow : OpenClaim := { program := "ytiblijmngokcgaagreatdoor", sum := "c238fc7930ede6ce70dbff74893eb784b233f7d03f213e7a7d2bf7b6141be128", func := "rollbacknet/rollbacknetlaw13.CkptstoreTorn", spec := "ckptstoreTorn", unfollowed := true, recurses := true, named := ["rollbacknet/rollbacknetmake.scalars", "rollbacknet/rollbacknetmake.arrays"], apart := false, laid := [("rollbacknet/rollbacknetmake.scalars", laid_rollbacknet_rollbacknetmake_scalars), ("rollbacknet/rollbacknetmake.arrays", laid_rollbacknet_rollbacknetmake_arrays)], narrowed := true }
def CkptstoreTornUptoSaid : Prop := ckptstoreTornUptoRow.holds Tryz.pinned (OpenSpec.upto ckptstoreTornSpec)

/-- 'rollbacknetlaw08.CodecSpoilt', WHERE WHAT IT READS IS OF BULK AT MOST 1048576: true; the input reads as it did. -/
def codecSpoiltUptoRow : OpenClaim := { program := "ytiblijmngokcgaagreatdoor", sum := "c238fc7930ede6ce70dbff74893eb784b233f7d03f213e7a7d2bf7b6141be128", func := "rollbacknet/rollbacknetlaw08.CodecSpoilt", spec := "codecSpoilt", unfollowed := true, recurses := true, named := ["rollbacknet/rollbacknetmake.scalars", "rollbacknet/rollbacknetmake.arrays"], apart := false, laid := [("rollbacknet/rollbacknetmake.scalars", laid_rollbacknet_rollbacknetmake_scalars), ("rollbacknet/rollbacknetmake.arrays", laid_rollbacknet_rollbacknetmake_arrays)], narrowed := true }
def CodecSpoiltUptoSaid : Prop := codecSpoiltUptoRow.holds Tryz.pinned (OpenSpec.upto codecSpoiltSpec)

/-- 'rollbacknetlaw13.CkptstoreCheap', WHERE WHAT IT READS IS OF BULK AT MOST 1048576: true; the input reads as it did. -/
def ckptstoreCheapUptoRow : OpenClaim := { program := "ytiblijmngokcgaagreatdoor", sum := "c238fc7930ede6ce70dbff74893eb784b233f7d03f213e7a7d2bf7b6141be128", func := "rollbacknet/rollbacknetlaw13.CkptstoreCheap", spec := "ckptstoreCheap", unfollowed := true, recurses := true, named := ["rollbacknet/rollbacknetmake.scalars", "rollbacknet/rollbacknetmake.arrays"], apart := false, laid := [("rollbacknet/rollbacknetmake.scalars", laid_rollbacknet_rollbacknetmake_scalars), ("rollbacknet/rollbacknetmake.arrays", laid_rollbacknet_rollbacknetmake_arrays)], narrowed := true }
def CkptstoreCheapUptoSaid : Prop := ckptstoreCheapUptoRow.holds Tryz.pinned (OpenSpec.upto ckptstoreCheapSpec)

/-- 'rollbacknetlaw13.CkptstoreDrops', WHERE WHAT IT READS IS OF BULK AT MOST 1048576: true; the input reads as it did. -/
def ckptstoreDropsUptoRow : OpenClaim := { program := "ytiblijmngokcgaagreatdoor", sum := "c238fc7930ede6ce70dbff74893eb784b233f7d03f213e7a7d2bf7b6141be128", func := "rollbacknet/rollbacknetlaw13.CkptstoreDrops", spec := "ckptstoreDrops", unfollowed := true, recurses := true, named := ["rollbacknet/rollbacknetmake.scalars", "rollbacknet/rollbacknetmake.arrays"], apart := false, laid := [("rollbacknet/rollbacknetmake.scalars", laid_rollbacknet_rollbacknetmake_scalars), ("rollbacknet/rollbacknetmake.arrays", laid_rollbacknet_rollbacknetmake_arrays)], narrowed := true }
def CkptstoreDropsUptoSaid : Prop := ckptstoreDropsUptoRow.holds Tryz.pinned (OpenSpec.upto ckptstoreDropsSpec)

/-- 'rollbacknetlaw13.CkptstoreBack', WHERE WHAT IT READS IS OF BULK AT MOST 1048576: true; the input reads as it did. -/
def ckptstoreBackUptoRow : OpenClaim := { program := "ytiblijmngokcgaagreatdoor", sum := "c238fc7930ede6ce70dbff74893eb784b233f7d03f213e7a7d2bf7b6141be128", func := "rollbacknet/rollbacknetlaw13.CkptstoreBack", spec := "ckptstoreBack", unfollowed := true, recurses := true, named := ["rollbacknet/rollbacknetmake.scalars", "rollbacknet/rollbacknetmake.arrays"], apart := false, laid := [("rollbacknet/rollbacknetmake.scalars", laid_rollbacknet_rollbacknetmake_scalars), ("rollbacknet/rollbacknetmake.arrays", laid_rollbacknet_rollbacknetmake_arrays)], narrowed := true }
def CkptstoreBackUptoSaid : Prop := ckptstoreBackUptoRow.holds Tryz.pinned (OpenSpec.upto ckptstoreBackSpec)

end Rows
end Go.Proofs.YtiblijmngokcgaaGreatDoor
