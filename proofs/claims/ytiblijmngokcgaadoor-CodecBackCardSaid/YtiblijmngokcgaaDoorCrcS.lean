import Derived.Test.YtiblijmngokcgaaDoorKitS
import Derived.Laws.BitsAllLaws
import Derived.Test.YtiblijmngokcgaaDoorProg
namespace Go.Proofs.YtiblijmngokcgaaDoor
open Go.RowKit
def stp (s : Nat) : Nat := if s % 2 = 1 then (s / 2) ^^^ 3988292384 else s / 2
def stpN : Nat → Nat → Nat
  | 0, s => s
  | k + 1, s => stp (stpN k s)
def tab (i : Nat) : Nat := stpN 8 i
def inv (s : Nat) : Nat := 4294967295 ^^^ s
def pby (s : Nat) (c : UInt8) : Nat := (s / 256) ^^^ tab ((s % 256) ^^^ c.toNat)
def rby (s : Nat) (c : UInt8) : Nat := stpN 8 (s ^^^ c.toNat)
def tabCells (k : Nat) : Array Value := ((List.range 256).map fun i => Value.int .u32 ((if i < k then tab i else 0 : Nat) : Int)).toArray
end Go.Proofs.YtiblijmngokcgaaDoor
namespace Go.Proofs.YtiblijmngokcgaaDoor
open Go.RowKit
attribute [local irreducible] tabCells stpN stp tab inv pby rby
set_option maxRecDepth 100000
set_option linter.unusedVariables false
end Go.Proofs.YtiblijmngokcgaaDoor
namespace Go.Proofs.YtiblijmngokcgaaDoor
def num : List UInt8 → Nat
  | [] => 0
  | c :: l => c.toNat + 256 * num l
end Go.Proofs.YtiblijmngokcgaaDoor
