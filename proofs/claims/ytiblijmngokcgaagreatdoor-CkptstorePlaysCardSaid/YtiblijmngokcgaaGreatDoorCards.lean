/-
  DERIVED. GIVEN WITH THE SEED: THE CARDS: each row of YtiblijmngokcgaaGreatDoorRows.lean that lists a variable, with what it lists TIED to the program's text (the seventh form; the later family's looks); each row that meets fmt, with fmt's text TOLD by the authors' own Lean function (tested against real Go, not proved from fmt's source: count such statements apart). THE CARD IS WHAT COUNTS. Prove the row's statement (the work); the ties are given (YtiblijmngokcgaaGreatDoorTie.lean); close each card by the builder's one call (the guide's Derived/Test/ToyasCard.lean, 'card_holds'). Laid BY PROGRAM, IN A SANDBOX (cutbox-door.mjs). By AI agents, Wed Nov 11 2026. No macro, syntax, notation, axiom, sorry.
-/
import Derived.Test.YtiblijmngokcgaaGreatDoorRows
import GoSem.ClaimSeven
namespace Go.Proofs.YtiblijmngokcgaaGreatDoor
namespace Rows

/-- THE TIED CARD OF 'rollbacknetlaw13.CkptstorePlays'. -/
def ckptstorePlaysCard : Claim7 := { stood := { row := ckptstorePlaysRow, standIns := [], harness := (true, "d130b15a564e32eaaf84232e07a11731d1d678c44b390602fb1610a74079f75f"), looks := true }, kinds := [], alts := [], laidByText := true, laidKinds := [.data, .data], laidTests := true, laidLooks := .later }
def CkptstorePlaysCardSaid : Prop := Claim7.holds Tryz.pinned (.plain (OpenSpec.ofChange ckptstorePlaysSpec)) ckptstorePlaysCard

/-- THE TIED CARD OF 'rollbacknetlaw13.CkptstoreTorn'. -/
def ckptstoreTornCard : Claim7 := { stood := { row := ckptstoreTornRow, standIns := [], harness := (true, "d130b15a564e32eaaf84232e07a11731d1d678c44b390602fb1610a74079f75f"), looks := true }, kinds := [], alts := [], laidByText := true, laidKinds := [.data, .data], laidTests := true, laidLooks := .later }
def CkptstoreTornCardSaid : Prop := Claim7.holds Tryz.pinned (.plain (OpenSpec.ofChange ckptstoreTornSpec)) ckptstoreTornCard

/-- THE TIED CARD OF 'rollbacknetlaw08.CodecSpoilt'. -/
def codecSpoiltCard : Claim7 := { stood := { row := codecSpoiltRow, standIns := [], harness := (true, "d130b15a564e32eaaf84232e07a11731d1d678c44b390602fb1610a74079f75f"), looks := true }, kinds := [], alts := [], laidByText := true, laidKinds := [.data, .data], laidTests := true, laidLooks := .later }
def CodecSpoiltCardSaid : Prop := Claim7.holds Tryz.pinned (.plain (OpenSpec.ofChange codecSpoiltSpec)) codecSpoiltCard

/-- THE TIED CARD OF 'rollbacknetlaw13.CkptstoreCheap'. -/
def ckptstoreCheapCard : Claim7 := { stood := { row := ckptstoreCheapRow, standIns := [], harness := (true, "d130b15a564e32eaaf84232e07a11731d1d678c44b390602fb1610a74079f75f"), looks := true }, kinds := [], alts := [], laidByText := true, laidKinds := [.data, .data], laidTests := true, laidLooks := .later }
def CkptstoreCheapCardSaid : Prop := Claim7.holds Tryz.pinned (.plain (OpenSpec.ofChange ckptstoreCheapSpec)) ckptstoreCheapCard

/-- THE TIED CARD OF 'rollbacknetlaw13.CkptstoreDrops'. -/
def ckptstoreDropsCard : Claim7 := { stood := { row := ckptstoreDropsRow, standIns := [], harness := (true, "d130b15a564e32eaaf84232e07a11731d1d678c44b390602fb1610a74079f75f"), looks := true }, kinds := [], alts := [], laidByText := true, laidKinds := [.data, .data], laidTests := true, laidLooks := .later }
def CkptstoreDropsCardSaid : Prop := Claim7.holds Tryz.pinned (.plain (OpenSpec.ofChange ckptstoreDropsSpec)) ckptstoreDropsCard

/-- THE TIED CARD OF 'rollbacknetlaw13.CkptstoreBack'. -/
def ckptstoreBackCard : Claim7 := { stood := { row := ckptstoreBackRow, standIns := [], harness := (true, "d130b15a564e32eaaf84232e07a11731d1d678c44b390602fb1610a74079f75f"), looks := true }, kinds := [], alts := [], laidByText := true, laidKinds := [.data, .data], laidTests := true, laidLooks := .later }
def CkptstoreBackCardSaid : Prop := Claim7.holds Tryz.pinned (.plain (OpenSpec.ofChange ckptstoreBackSpec)) ckptstoreBackCard

/-- THE SECOND FORM's CARD OF 'rollbacknetlaw13.CkptstorePlays'. -/
def ckptstorePlaysUptoCard : Claim7 := { stood := { row := ckptstorePlaysUptoRow, standIns := [], harness := (true, "d130b15a564e32eaaf84232e07a11731d1d678c44b390602fb1610a74079f75f"), looks := true }, kinds := [], alts := [], laidByText := true, laidKinds := [.data, .data], laidTests := true, laidLooks := .later }
def CkptstorePlaysUptoCardSaid : Prop := Claim7.holds Tryz.pinned (.plain (OpenSpec.upto ckptstorePlaysSpec)) ckptstorePlaysUptoCard

/-- THE SECOND FORM's CARD OF 'rollbacknetlaw13.CkptstoreTorn'. -/
def ckptstoreTornUptoCard : Claim7 := { stood := { row := ckptstoreTornUptoRow, standIns := [], harness := (true, "d130b15a564e32eaaf84232e07a11731d1d678c44b390602fb1610a74079f75f"), looks := true }, kinds := [], alts := [], laidByText := true, laidKinds := [.data, .data], laidTests := true, laidLooks := .later }
def CkptstoreTornUptoCardSaid : Prop := Claim7.holds Tryz.pinned (.plain (OpenSpec.upto ckptstoreTornSpec)) ckptstoreTornUptoCard

/-- THE SECOND FORM's CARD OF 'rollbacknetlaw08.CodecSpoilt'. -/
def codecSpoiltUptoCard : Claim7 := { stood := { row := codecSpoiltUptoRow, standIns := [], harness := (true, "d130b15a564e32eaaf84232e07a11731d1d678c44b390602fb1610a74079f75f"), looks := true }, kinds := [], alts := [], laidByText := true, laidKinds := [.data, .data], laidTests := true, laidLooks := .later }
def CodecSpoiltUptoCardSaid : Prop := Claim7.holds Tryz.pinned (.plain (OpenSpec.upto codecSpoiltSpec)) codecSpoiltUptoCard

/-- THE SECOND FORM's CARD OF 'rollbacknetlaw13.CkptstoreCheap'. -/
def ckptstoreCheapUptoCard : Claim7 := { stood := { row := ckptstoreCheapUptoRow, standIns := [], harness := (true, "d130b15a564e32eaaf84232e07a11731d1d678c44b390602fb1610a74079f75f"), looks := true }, kinds := [], alts := [], laidByText := true, laidKinds := [.data, .data], laidTests := true, laidLooks := .later }
def CkptstoreCheapUptoCardSaid : Prop := Claim7.holds Tryz.pinned (.plain (OpenSpec.upto ckptstoreCheapSpec)) ckptstoreCheapUptoCard

/-- THE SECOND FORM's CARD OF 'rollbacknetlaw13.CkptstoreDrops'. -/
def ckptstoreDropsUptoCard : Claim7 := { stood := { row := ckptstoreDropsUptoRow, standIns := [], harness := (true, "d130b15a564e32eaaf84232e07a11731d1d678c44b390602fb1610a74079f75f"), looks := true }, kinds := [], alts := [], laidByText := true, laidKinds := [.data, .data], laidTests := true, laidLooks := .later }
def CkptstoreDropsUptoCardSaid : Prop := Claim7.holds Tryz.pinned (.plain (OpenSpec.upto ckptstoreDropsSpec)) ckptstoreDropsUptoCard

/-- THE SECOND FORM's CARD OF 'rollbacknetlaw13.CkptstoreBack'. -/
def ckptstoreBackUptoCard : Claim7 := { stood := { row := ckptstoreBackUptoRow, standIns := [], harness := (true, "d130b15a564e32eaaf84232e07a11731d1d678c44b390602fb1610a74079f75f"), looks := true }, kinds := [], alts := [], laidByText := true, laidKinds := [.data, .data], laidTests := true, laidLooks := .later }
def CkptstoreBackUptoCardSaid : Prop := Claim7.holds Tryz.pinned (.plain (OpenSpec.upto ckptstoreBackSpec)) ckptstoreBackUptoCard
end Rows
end Go.Proofs.YtiblijmngokcgaaGreatDoor
