import Derived.Test.YtiblijmngokcgaaDoorRows
import Derived.Test.YtiblijmngokcgaaDoorDrES
import Derived.ChangeSame
import Derived.ChangeVars
import Derived.JoinedOf
import Derived.Handed
import Derived.ChangeMaps5
import Derived.RowKit
import Derived.ProofKit
import Derived.WalkKit
namespace Go.Proofs.YtiblijmngokcgaaDoor
open Go.ChangeShapes Go.WideShapes Go.RowKit
set_option linter.unusedVariables false
set_option linter.unusedSimpArgs false
set_option maxRecDepth 100000
def laidL : List (String × DataW Unit) := [("rollbacknet/rollbacknetmake.scalars", Rows.laid_rollbacknet_rollbacknetmake_scalars), ("rollbacknet/rollbacknetmake.arrays", Rows.laid_rollbacknet_rollbacknetmake_arrays)]
theorem gS : Tryd.prog.globalNamed "rollbacknet/rollbacknetmake.scalars" = some 0 := by kernel_rfl
theorem gA : Tryd.prog.globalNamed "rollbacknet/rollbacknetmake.arrays" = some 1 := by kernel_rfl
theorem gSt : (Tryd.prog.globals[0]?).map (·.type) = some 151 := by kernel_rfl
theorem gAt : (Tryd.prog.globals[1]?).map (·.type) = some 153 := by kernel_rfl
theorem c3s : Tryd.prog.cellsOf 151 = 3 := by kernel_rfl
theorem c2s : Tryd.prog.cellsOf 153 = 2 := by kernel_rfl
theorem c1s : Tryd.prog.cellsOf 9 = 1 := by kernel_rfl
theorem str_of_trod {H : Type} {enc : TypeId × Value → H} {w : World} {base : Nat} {sp : Nat → Bool} {held : Bool} {fuel : Nat} {c : Value} {y : DataW H × List MemPlace}
    (h : DataW.trod enc Tryd.prog w base sp held fuel 9 [c] = some y) : ∃ s : ByteArray, c = .string s ∧ y = (.lit (.string s.data.toList), []) := by
  obtain ⟨s, h1, h2, _⟩ := DataW.trod_string Tryd.underlying9 h
  cases h1
  exact ⟨s, rfl, h2⟩
theorem str_one {s : ByteArray} {c : UInt8} (h : s.data.toList = [c]) : s = nm c := by
  obtain ⟨d⟩ := s
  have : d = #[c] := by
    rw [← Array.toArray_toList (xs := d), h]
  rw [this]
  rfl
theorem scal_cells {W : World} {base : Nat} {sp : Nat → Bool} {held : Bool} {fuel : Nat} {cs : Array Value} {p : List MemPlace} (hd : DataW.trod (H := Unit) (fun _ => ()) Tryd.prog W base sp held fuel 151 cs.toList = some (Rows.laid_rollbacknet_rollbacknetmake_scalars, p)) : cs = #[.string (nm 120), .string (nm 121), .string (nm 122)] := by
  obtain ⟨l⟩ := cs
  cases fuel with
  | zero => simp [DataW.trod] at hd
  | succ fuel =>
    simp only [DataW.trod, Tryd.underlying151, c3s, c1s] at hd
    split at hd
    · rename_i hl
      obtain ⟨c0, c1, c2, rfl⟩ : ∃ c0 c1 c2, l = [c0, c1, c2] := by
        match l, hl with
        | [a, b, c], _ => exact ⟨a, b, c, rfl⟩
      have e : List.range 3 = [0, 1, 2] := rfl
      rw [e] at hd
      simp only [Option.map_eq_some_iff, List.mapM_cons, List.mapM_nil, Option.bind_eq_bind, Option.bind_eq_some_iff, Option.pure_def, Option.some.injEq] at hd
      obtain ⟨xs, ⟨y0, h0, _, ⟨y1, h1, _, ⟨y2, h2, _, rfl, rfl⟩, rfl⟩, rfl⟩, hx⟩ := hd
      obtain ⟨n0, rfl, rfl⟩ := str_of_trod h0
      obtain ⟨n1, rfl, rfl⟩ := str_of_trod h1
      obtain ⟨n2, rfl, rfl⟩ := str_of_trod h2
      simp [Rows.laid_rollbacknet_rollbacknetmake_scalars] at hx
      obtain ⟨⟨e0, e1, e2⟩, _⟩ := hx
      rw [str_one (s := n0) (c := 120) (by simpa using e0), str_one (s := n1) (c := 121) (by simpa using e1), str_one (s := n2) (c := 122) (by simpa using e2)]
    · cases hd
theorem arr_cells {W : World} {base : Nat} {sp : Nat → Bool} {held : Bool} {fuel : Nat} {cs : Array Value} {p : List MemPlace} (hd : DataW.trod (H := Unit) (fun _ => ()) Tryd.prog W base sp held fuel 153 cs.toList = some (Rows.laid_rollbacknet_rollbacknetmake_arrays, p)) : cs = #[.string (nm 97), .string (nm 98)] := by
  obtain ⟨l⟩ := cs
  cases fuel with
  | zero => simp [DataW.trod] at hd
  | succ fuel =>
    simp only [DataW.trod, Tryd.underlying153, c2s, c1s] at hd
    split at hd
    · rename_i hl
      obtain ⟨c0, c1, rfl⟩ : ∃ c0 c1, l = [c0, c1] := by
        match l, hl with
        | [a, b], _ => exact ⟨a, b, rfl⟩
      have e : List.range 2 = [0, 1] := rfl
      rw [e] at hd
      simp only [Option.map_eq_some_iff, List.mapM_cons, List.mapM_nil, Option.bind_eq_bind, Option.bind_eq_some_iff, Option.pure_def, Option.some.injEq] at hd
      obtain ⟨xs, ⟨y0, h0, _, ⟨y1, h1, _, rfl, rfl⟩, rfl⟩, hx⟩ := hd
      obtain ⟨n0, rfl, rfl⟩ := str_of_trod h0
      obtain ⟨n1, rfl, rfl⟩ := str_of_trod h1
      simp [Rows.laid_rollbacknet_rollbacknetmake_arrays] at hx
      obtain ⟨⟨e0, e1⟩, _⟩ := hx
      rw [str_one (s := n0) (c := 97) (by simpa using e0), str_one (s := n1) (c := 98) (by simpa using e1)]
    · cases hd
theorem glb_of_laid {W : World} (h : laidMet Tryd.prog laidL W) : Glb 2 W := by
  obtain ⟨ps, ⟨g, t, cs, fuel, p, q, hg, ht, hvar, hd, ⟨g2, t2, cs2, fuel2, p2, q2, hg2, ht2, hvar2, hd2, _, _⟩, _⟩, _⟩ := h
  obtain rfl := Option.some.inj (gS.symm.trans hg)
  obtain rfl := Option.some.inj (gSt.symm.trans ht)
  obtain rfl := Option.some.inj (gA.symm.trans hg2)
  obtain rfl := Option.some.inj (gAt.symm.trans ht2)
  obtain rfl := scal_cells hd
  obtain rfl := arr_cells hd2
  have c := fun i => World.var?_cell hg hvar i
  have d := fun i => World.var?_cell hg2 hvar2 i
  have hsz : 1 < W.heap.size := by
    have h0 := d 0
    unfold World.cell? at h0
    rcases Nat.lt_or_ge 1 W.heap.size with h1 | h1
    · exact h1
    · rw [Array.getElem?_eq_none (by simpa using h1)] at h0
      simp at h0
  exact ⟨by omega, by omega, c 0, c 1, c 2, d 0, d 1⟩
def cells3 : Array Value := #[.string (nm 120), .string (nm 121), .string (nm 122)]
def cells2 : Array Value := #[.string (nm 97), .string (nm 98)]
def putCells (cs : Array Value) : Obj → Obj
  | .cells _ t frozen => .cells cs t frozen
  | o => o
noncomputable def laidWorld (os : Os) : World :=
  { World.holding Tryd.prog os ⟨#[], #[], []⟩ with heap := ((World.holding Tryd.prog os ⟨#[], #[], []⟩).heap.modify 0 (putCells cells3)).modify 1 (putCells cells2) }
theorem laidWorld_0 (os : Os) (args : Array Value) : ((laidWorld os).forCall (fun _ _ => 0) ⟨#[], args, []⟩).memory.heap[0]? = some (.cells cells3 151 (0, 0)) := by kernel_rfl
theorem laidWorld_1 (os : Os) (args : Array Value) : ((laidWorld os).forCall (fun _ _ => 0) ⟨#[], args, []⟩).memory.heap[1]? = some (.cells cells2 153 (0, 0)) := by kernel_rfl
theorem laidWorld_met (os : Os) (args : Array Value) : laidMet Tryd.prog laidL ((laidWorld os).forCall (fun _ _ => 0) ⟨#[], args, []⟩).memory :=
  ⟨_, ⟨0, 151, cells3, 8, [], _, by kernel_rfl, by kernel_rfl, by kernel_rfl, by kernel_rfl, ⟨1, 153, cells2, 8, [], [], by kernel_rfl, by kernel_rfl, by kernel_rfl, by kernel_rfl, rfl, rfl⟩, rfl⟩, by decide, fun b off h => by
    have h' : MemPlace.cell b off ∈ [MemPlace.cell 0 0, .cell 0 1, .cell 0 2, .cell 1 0, .cell 1 1] := h
    have hb : b = 0 ∨ b = 1 := by
      simp at h'
      omega
    rcases hb with rfl | rfl
    · refine ⟨⟨_, _, laidWorld_0 os args⟩, fun u v hc => ?_⟩
      simp only [World.cell?, laidWorld_0 os args] at hc
      simp at h'
      rcases h' with rfl | rfl | rfl <;> simp [cells3] at hc
    · refine ⟨⟨_, _, laidWorld_1 os args⟩, fun u v hc => ?_⟩
      simp only [World.cell?, laidWorld_1 os args] at hc
      simp at h'
      rcases h' with rfl | rfl <;> simp [cells2] at hc⟩
end Go.Proofs.YtiblijmngokcgaaDoor
