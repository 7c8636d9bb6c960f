/-
  Disks: rows of files, each two slices of bytes.
-/
import Derived.Test.YtmbbngdhdhgliaaByte
namespace Go.Proofs.Ytmbbngdhdhgliaa
open Go.RowKit
set_option maxRecDepth 100000
set_option linter.unusedVariables false

/-- the two slices of a file, as values -/
structure FV where
  A1 : Option Addr
  n1 : Nat
  c1 : Nat
  A2 : Option Addr
  n2 : Nat
  c2 : Nat
def FV.s (x : FV) : Value := .slice x.A1 x.n1 x.c1
def FV.p (x : FV) : Value := .slice x.A2 x.n2 x.c2
def encF (x : FV) : List Value := [.slice x.A1 x.n1 x.c1, .slice x.A2 x.n2 x.c2]
theorem encF_len (x : FV) : (encF x).length = 2 := rfl
theorem encF_one (x : FV) : ∀ u ∈ encF x, u.oneCell' = true := by
  intro u hu
  simp [encF] at hu
  rcases hu with rfl | rfl <;> rfl
def zeroF : Value := .agg #[.slice none 0 0, .slice none 0 0]
theorem infoF : (Try.prog.info? 48).map (fun i => (i.zero, i.size, i.bytes)) = some (some zeroF, 2, 48) := by kernel_rfl

/-- a file: what is safe and what is pending -/
structure Fil where
  s : List UInt8
  p : List UInt8
deriving DecidableEq, Inhabited
structure FOk (S : Nat → Prop) (w : World) (x : FV) (f : Fil) : Prop where
  s : By S w (.slice x.A1 x.n1 x.c1) f.s
  p : By S w (.slice x.A2 x.n2 x.c2) f.p
theorem FOk.ext {S : Nat → Prop} {w w' : World} {x : FV} {f : Fil} (h : FOk S w x f) (hb : Below w.heap.size w w') : FOk S w' x f := ⟨h.s.ext hb, h.p.ext hb⟩
theorem FOk.mono {S S' : Nat → Prop} {w : World} {x : FV} {f : Fil} (h : FOk S w x f) (hs : ∀ b, b < w.heap.size → S b → S' b) : FOk S' w x f := ⟨h.s.mono hs, h.p.mono hs⟩
theorem FOk.keep {S : Nat → Prop} {w w' : World} {x : FV} {f : Fil} (h : FOk S w x f) (hk : Keep S w w') : FOk S w' x f := ⟨Recs.keep h.s hk, Recs.keep h.p hk⟩
/-- the files of a disk -/
def Dsk (S : Nat → Prop) (w : World) (v : Value) (fs : List Fil) : Prop := ∃ xs, Recs encF S w v xs ∧ xs.length = fs.length ∧ ∀ (i : Nat) (x : FV) (f : Fil), xs[i]? = some x → fs[i]? = some f → FOk S w x f
theorem Dsk.ext {S : Nat → Prop} {w w' : World} {v : Value} {fs : List Fil} (h : Dsk S w v fs) (hb : Below w.heap.size w w') : Dsk S w' v fs := by
  obtain ⟨xs, h1, h2, h3⟩ := h
  exact ⟨xs, h1.ext hb, h2, fun i x f hx hf => (h3 i x f hx hf).ext hb⟩
theorem Dsk.keep {S : Nat → Prop} {w w' : World} {v : Value} {fs : List Fil} (h : Dsk S w v fs) (hk : Keep S w w') : Dsk S w' v fs := by
  obtain ⟨xs, h1, h2, h3⟩ := h
  exact ⟨xs, h1.keep hk, h2, fun i x f hx hf => (h3 i x f hx hf).keep hk⟩
theorem Dsk.mono {S S' : Nat → Prop} {w : World} {v : Value} {fs : List Fil} (h : Dsk S w v fs) (hs : ∀ b, b < w.heap.size → S b → S' b) : Dsk S' w v fs := by
  obtain ⟨xs, h1, h2, h3⟩ := h
  exact ⟨xs, h1.mono hs, h2, fun i x f hx hf => (h3 i x f hx hf).mono hs⟩
theorem Dsk.lo {S : Nat → Prop} {w : World} {v : Value} {fs : List Fil} (h : Dsk S w v fs) : Dsk (· < w.heap.size) w v fs := h.mono (fun _ hb _ => hb)
theorem Dsk.len {S : Nat → Prop} {w : World} {A : Option Addr} {n c : Nat} {fs : List Fil} (h : Dsk S w (.slice A n c) fs) : fs.length = n ∧ n ≤ c ∧ c ≤ 9223372036854775807 := by
  obtain ⟨xs, h1, h2, h3⟩ := h
  have := h1.len
  omega
theorem Dsk.nil_ (S : Nat → Prop) (w : World) : Dsk S w (.slice none 0 0) [] := ⟨[], Recs.nil_ _ _, rfl, fun i x f hx => by simp at hx⟩
/-- one file's cells -/
theorem Dsk.at_ {S : Nat → Prop} {w : World} {A : Option Addr} {n c k : Nat} {fs : List Fil} (h : Dsk S w (.slice A n c) fs) (hk : k < n) :
    ∃ b off x f, A = some ⟨b, off, none⟩ ∧ b < w.heap.size ∧ fs[k]? = some f ∧ FOk S w x f ∧ w.cell? ⟨b, off + k * 2, none⟩ = some (.slice x.A1 x.n1 x.c1) ∧ w.cell? ⟨b, off + k * 2 + 1, none⟩ = some (.slice x.A2 x.n2 x.c2) := by
  have hl := h.len
  obtain ⟨xs, h1, h2, h3⟩ := h
  obtain ⟨b, off, x, rfl, _, hb, hx, hc⟩ := h1.at_ encF_len (j := k) (by omega) (by omega)
  have hf : fs[k]? = some fs[k] := List.getElem?_eq_getElem (by omega)
  exact ⟨b, off, x, _, rfl, hb, hf, h3 k x _ hx hf, hc 0 _ rfl, hc 1 _ rfl⟩
theorem flat_set (xs : List FV) (k : Nat) (x : FV) (hk : k < xs.length) : (xs.set k x).flatMap encF = ((xs.flatMap encF).set (k * 2) (.slice x.A1 x.n1 x.c1)).set (k * 2 + 1) (.slice x.A2 x.n2 x.c2) := by
  induction xs generalizing k with
  | nil => simp at hk
  | cons y xs ih =>
    cases k with
    | zero => rfl
    | succ k =>
      rw [List.set_cons_succ, List.flatMap_cons, ih k (by simpa using hk), List.flatMap_cons, show (k + 1) * 2 = (k * 2) + 1 + 1 by omega]
      rfl
/-- a file is stored in a row of the call's own -/
theorem OwnR.setF {w : World} {base : Nat} {e : TypeId} {g n c k : Nat} {xs : List FV} (h : OwnR encF 2 w base e (.slice (some ⟨g, 0, none⟩) n c) xs) (x : FV) (hk : k < n) :
    OwnR encF 2 ((w.setCell ⟨g, k * 2, none⟩ (.slice x.A1 x.n1 x.c1)).setCell ⟨g, k * 2 + 1, none⟩ (.slice x.A2 x.n2 x.c2)) base e (.slice (some ⟨g, 0, none⟩) n c) (xs.set k x) := by
  have hl := h.len.1
  unfold OwnR at *
  rw [List.length_set, flat_set xs k x (by omega)]
  subst hl
  exact (World.ownsRow.stored (World.ownsRow.stored h _ _).1 _ _).1
theorem OwnR.cellF {w : World} {base : Nat} {e : TypeId} {g n c k : Nat} {xs : List FV} (h : OwnR encF 2 w base e (.slice (some ⟨g, 0, none⟩) n c) xs) (hk : k < n) (i : Nat) (hi : i < 2) : (∃ v, w.cell? ⟨g, k * 2 + i, none⟩ = some v) ∧ w.frozen? ⟨g, k * 2 + i, none⟩ = false := by
  have hl := h.len.1
  obtain ⟨b, off, x, e1, _, hb, hx, hc⟩ := h.recs.at_ encF_len (j := k) (by omega) (by omega)
  refine ⟨?_, ?_⟩
  · rcases h.2 with ⟨e0, _⟩ | ⟨g', cap, cur, e0, _, hh, _, _, h3, _⟩
    · cases e0
    · cases e0
      have h9 : xs.length ≤ c := by assumption
      have hlt : k * 2 + i < cur.size := by rw [h3]; omega
      exact ⟨cur[k * 2 + i], by rw [cell_of_row _ _ _ _ _ _ hh]; exact Array.getElem?_eq_getElem hlt⟩
  · subst hl
    exact World.ownsRow.frozenAt h _
end Go.Proofs.Ytmbbngdhdhgliaa
