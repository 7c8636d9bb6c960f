/-
  For the laws of the disk: integers that came in.
-/
import Derived.Test.YtmbbngdhdhgliaaAwakeD
namespace Go.Proofs.Ytmbbngdhdhgliaa
open Go.RowKit
set_option linter.unusedVariables false
theorem flatZ' (l : List Int) : l.flatMap encZ = l.map (fun z => Value.int .i64 z) := by
  induction l with
  | nil => rfl
  | cons x l ih => rw [List.flatMap_cons, ih]; rfl
theorem IsRow.zs_ {w : World} {a : Option Addr} {len cap : Nat} {zs : List Int} (h : IsRow .i64 w a len cap zs) :
    ∃ l : List Int, l.length = len ∧ len ≤ cap ∧ cap ≤ 9223372036854775807 ∧ Recs encZ (· < w.heap.size) w (.slice a len cap) l := by
  rcases h with ⟨rfl, rfl, rfl, rfl⟩ | ⟨x, rfl, hl, hm, hz, hc, hw⟩
  · exact ⟨[], rfl, by omega, by omega, Recs.nil_ _ _⟩
  · refine ⟨zs.take len, by simp; omega, hl, by unfold maxLen at hm; omega, some x, cap, by simp; omega, by simp; omega, hm, ?_⟩
    rw [flatZ']
    intro hn
    have hn' : 0 < zs.length := by simp at hn; omega
    obtain ⟨b, off, rfl⟩ := plain_of_cell (hc 0 hn')
    refine ⟨b, off, rfl, block_lt_of_cell (hc 0 hn') , fun j u hu => ?_⟩
    have hj : j < zs.length ∧ j < len := by
      have := (List.getElem?_eq_some_iff.1 hu).1
      simp at this; omega
    have := hc j hj.1
    rw [Addr.add_mid] at this
    rw [this]
    simp [hj.1, hj.2] at hu
    rw [← hu]
    simp [hj.1]
theorem crash_one (more : List UInt8) (keep : Int) (lost : List Int) : crashL [⟨[], [] ++ more⟩] [⟨keep, lost⟩] = [⟨[] ++ tornL more keep lost, []⟩] := by
  simp [crashL, crashF, tearOf]
theorem tornL_len (p : List UInt8) (keep : Int) (lost : List Int) : (tornL p keep lost).length = keepN p keep := by
  unfold tornL
  rw [maskL_len, List.length_take]
  have := keepN_le p keep
  omega
/-- what is wanted of a byte behind some lost sectors -/
def wantB (x : UInt8) (i : Nat) (L : List Int) : UInt8 := if ((i / 16 : Nat) : Int) ∈ L then 0 else x
theorem want_yes (x : UInt8) (i : Nat) (L : List Int) (z : Int) (h : z = ((i / 16 : Nat) : Int)) : wantB x i (L ++ [z]) = 0 := by
  unfold wantB
  rw [if_pos (by rw [h]; simp)]
theorem want_no (x : UInt8) (i : Nat) (L : List Int) (z : Int) (h : ¬ z = ((i / 16 : Nat) : Int)) : wantB x i (L ++ [z]) = wantB x i L := by
  unfold wantB
  have : ((i / 16 : Nat) : Int) ∈ L ++ [z] ↔ ((i / 16 : Nat) : Int) ∈ L := by
    rw [List.mem_append, List.mem_singleton]
    exact ⟨fun q => q.elim id (fun e => absurd e.symm h), .inl⟩
  simp only [this]
theorem torn_get (p : List UInt8) (keep : Int) (lost : List Int) (i : Nat) (x : UInt8) (hi : i < keepN p keep) (hx : p[i]? = some x) : (tornL p keep lost)[i]? = some (wantB x i lost) := by
  unfold tornL
  rw [maskL_get, List.getElem?_take, if_pos hi, hx]
  rfl
theorem mkB8 (n : Nat) (hn : n < 256) (w : World) : (Instr.makeSlice 30 (.int .u8 (n : Int)) (.int .u8 (n : Int))).run Try.prog w = .ok (.slice (some ⟨w.heap.size, 0, none⟩) n n) (w.alloc (.cells (madeCells (encB 0).toArray n) 5)) := by
  obtain ⟨i, hi, hz, hs, hb⟩ := info_parts infoB
  have h := run_make (P := Try.prog) w 30 5 i (.int .u8 0) Try.underlying30 hi hz .u8 .u8 n n (by omega) (by omega) (by rw [hb]; omega) (by omega)
  rw [h, hs]
  simp only [Int.toNat_natCast, Nat.mul_one]
  rfl
theorem mkBn (n : Nat) (hn : n ≤ 100000000) (w : World) : (Instr.makeSlice 30 (.int .i64 (n : Int)) (.int .i64 (n : Int))).run Try.prog w = .ok (.slice (some ⟨w.heap.size, 0, none⟩) n n) (w.alloc (.cells (madeCells (encB 0).toArray n) 5)) := by
  have := mkB n hn w
  rw [Nat.mul_one] at this
  exact this
theorem mkOwnBn (n : Nat) (hn : n ≤ 100000000) (w : World) : OwnR encB 1 (w.alloc (.cells (madeCells (encB 0).toArray n) 5)) w.heap.size 5 (.slice (some ⟨w.heap.size, 0, none⟩) n n) (List.replicate n 0) := by
  have := mkOwnB n hn w
  rw [Nat.mul_one] at this
  exact this
end Go.Proofs.Ytmbbngdhdhgliaa
