import Derived.Test.YtiblijmngokcgaaDoorCodecAS
import Derived.Lib.AppendZeros
import Derived.Test.YtiblijmngokcgaaDoorKitS
import Derived.Laws.IdiomCopy
import Derived.Lib.SliceRun
namespace Go.Proofs.YtiblijmngokcgaaDoor
open Go.RowKit
set_option maxRecDepth 100000
set_option linter.unusedVariables false
end Go.Proofs.YtiblijmngokcgaaDoor
namespace Go.Proofs.YtiblijmngokcgaaDoor
open Go.RowKit
set_option maxRecDepth 100000
set_option linter.unusedVariables false
end Go.Proofs.YtiblijmngokcgaaDoor
namespace Go.Proofs.YtiblijmngokcgaaDoor
open Go.RowKit
set_option maxRecDepth 100000
set_option linter.unusedVariables false
structure FV where
  A1 : Option Addr
  n1 : Nat
  c1 : Nat
  A2 : Option Addr
  n2 : Nat
  c2 : Nat
def FV.s (x : FV) : Value := .slice x.A1 x.n1 x.c1
def FV.p (x : FV) : Value := .slice x.A2 x.n2 x.c2
def encF (x : FV) : List Value := [.slice x.A1 x.n1 x.c1, .slice x.A2 x.n2 x.c2]
theorem encF_len (x : FV) : (encF x).length = 2 := rfl
structure Fil where
  s : List UInt8
  p : List UInt8
deriving DecidableEq, Inhabited
structure FOk (S : Nat → Prop) (w : World) (x : FV) (f : Fil) : Prop where
  s : By S w (.slice x.A1 x.n1 x.c1) f.s
  p : By S w (.slice x.A2 x.n2 x.c2) f.p
theorem FOk.ext {S : Nat → Prop} {w w' : World} {x : FV} {f : Fil} (h : FOk S w x f) (hb : Below w.heap.size w w') : FOk S w' x f := ⟨h.s.ext hb, h.p.ext hb⟩
theorem FOk.mono {S S' : Nat → Prop} {w : World} {x : FV} {f : Fil} (h : FOk S w x f) (hs : ∀ b, b < w.heap.size → S b → S' b) : FOk S' w x f := ⟨h.s.mono hs, h.p.mono hs⟩
theorem FOk.keep {S : Nat → Prop} {w w' : World} {x : FV} {f : Fil} (h : FOk S w x f) (hk : Keep S w w') : FOk S w' x f := ⟨Recs.keep h.s hk, Recs.keep h.p hk⟩
def Dsk (S : Nat → Prop) (w : World) (v : Value) (fs : List Fil) : Prop := ∃ xs, Recs encF S w v xs ∧ xs.length = fs.length ∧ ∀ (i : Nat) (x : FV) (f : Fil), xs[i]? = some x → fs[i]? = some f → FOk S w x f
theorem Dsk.ext {S : Nat → Prop} {w w' : World} {v : Value} {fs : List Fil} (h : Dsk S w v fs) (hb : Below w.heap.size w w') : Dsk S w' v fs := by
  obtain ⟨xs, h1, h2, h3⟩ := h
  exact ⟨xs, h1.ext hb, h2, fun i x f hx hf => (h3 i x f hx hf).ext hb⟩
theorem Dsk.keep {S : Nat → Prop} {w w' : World} {v : Value} {fs : List Fil} (h : Dsk S w v fs) (hk : Keep S w w') : Dsk S w' v fs := by
  obtain ⟨xs, h1, h2, h3⟩ := h
  exact ⟨xs, h1.keep hk, h2, fun i x f hx hf => (h3 i x f hx hf).keep hk⟩
theorem Dsk.mono {S S' : Nat → Prop} {w : World} {v : Value} {fs : List Fil} (h : Dsk S w v fs) (hs : ∀ b, b < w.heap.size → S b → S' b) : Dsk S' w v fs := by
  obtain ⟨xs, h1, h2, h3⟩ := h
  exact ⟨xs, h1.mono hs, h2, fun i x f hx hf => (h3 i x f hx hf).mono hs⟩
theorem Dsk.lo {S : Nat → Prop} {w : World} {v : Value} {fs : List Fil} (h : Dsk S w v fs) : Dsk (· < w.heap.size) w v fs := h.mono (fun _ hb _ => hb)
theorem Dsk.len {S : Nat → Prop} {w : World} {A : Option Addr} {n c : Nat} {fs : List Fil} (h : Dsk S w (.slice A n c) fs) : fs.length = n ∧ n ≤ c ∧ c ≤ 9223372036854775807 := by
  obtain ⟨xs, h1, h2, h3⟩ := h
  have := h1.len
  omega
theorem Dsk.nil_ (S : Nat → Prop) (w : World) : Dsk S w (.slice none 0 0) [] := ⟨[], Recs.nil_ _ _, rfl, fun i x f hx => by simp at hx⟩
theorem Dsk.at_ {S : Nat → Prop} {w : World} {A : Option Addr} {n c k : Nat} {fs : List Fil} (h : Dsk S w (.slice A n c) fs) (hk : k < n) :
    ∃ b off x f, A = some ⟨b, off, none⟩ ∧ b < w.heap.size ∧ fs[k]? = some f ∧ FOk S w x f ∧ w.cell? ⟨b, off + k * 2, none⟩ = some (.slice x.A1 x.n1 x.c1) ∧ w.cell? ⟨b, off + k * 2 + 1, none⟩ = some (.slice x.A2 x.n2 x.c2) := by
  have hl := h.len
  obtain ⟨xs, h1, h2, h3⟩ := h
  obtain ⟨b, off, x, rfl, _, hb, hx, hc⟩ := h1.at_ encF_len (j := k) (by omega) (by omega)
  have hf : fs[k]? = some fs[k] := List.getElem?_eq_getElem (by omega)
  exact ⟨b, off, x, _, rfl, hb, hf, h3 k x _ hx hf, hc 0 _ rfl, hc 1 _ rfl⟩
end Go.Proofs.YtiblijmngokcgaaDoor
namespace Go.Proofs.YtiblijmngokcgaaDoor
open Go.RowKit
set_option maxRecDepth 100000
set_option linter.unusedVariables false
end Go.Proofs.YtiblijmngokcgaaDoor
namespace Go.Proofs.YtiblijmngokcgaaDoor
open Go.RowKit
set_option maxRecDepth 100000
set_option linter.unusedVariables false
end Go.Proofs.YtiblijmngokcgaaDoor
namespace Go.Proofs.YtiblijmngokcgaaDoor
open Go.RowKit
set_option maxRecDepth 100000
set_option linter.unusedVariables false
end Go.Proofs.YtiblijmngokcgaaDoor
namespace Go.Proofs.YtiblijmngokcgaaDoor
open Go.RowKit
set_option linter.unusedVariables false
end Go.Proofs.YtiblijmngokcgaaDoor
namespace Go.Proofs.YtiblijmngokcgaaDoor
open Go.RowKit
set_option maxRecDepth 100000
set_option linter.unusedVariables false
end Go.Proofs.YtiblijmngokcgaaDoor
namespace Go.Proofs.YtiblijmngokcgaaDoor
open Go.RowKit
set_option maxRecDepth 100000
set_option linter.unusedVariables false
structure TV where
  keep : Int
  A : Option Addr
  n : Nat
  c : Nat
def encT (x : TV) : List Value := [.int .i64 x.keep, .slice x.A x.n x.c]
theorem encT_len (x : TV) : (encT x).length = 2 := rfl
structure Tear where
  keep : Int
  lost : List Int
def Trs (S : Nat → Prop) (w : World) (v : Value) (ts : List Tear) : Prop := ∃ xs, Recs encT S w v xs ∧ xs.length = ts.length ∧ ∀ (i : Nat) (x : TV) (t : Tear), xs[i]? = some x → ts[i]? = some t → x.keep = t.keep ∧ Recs encZ S w (.slice x.A x.n x.c) t.lost
theorem Trs.ext {S : Nat → Prop} {w w' : World} {v : Value} {ts : List Tear} (h : Trs S w v ts) (hb : Below w.heap.size w w') : Trs S w' v ts := by
  obtain ⟨xs, h1, h2, h3⟩ := h
  exact ⟨xs, h1.ext hb, h2, fun i x t hx ht => ⟨(h3 i x t hx ht).1, (h3 i x t hx ht).2.ext hb⟩⟩
theorem Trs.keep {S : Nat → Prop} {w w' : World} {v : Value} {ts : List Tear} (h : Trs S w v ts) (hk : Keep S w w') : Trs S w' v ts := by
  obtain ⟨xs, h1, h2, h3⟩ := h
  exact ⟨xs, h1.keep hk, h2, fun i x t hx ht => ⟨(h3 i x t hx ht).1, (h3 i x t hx ht).2.keep hk⟩⟩
theorem Trs.mono {S S' : Nat → Prop} {w : World} {v : Value} {ts : List Tear} (h : Trs S w v ts) (hs : ∀ b, b < w.heap.size → S b → S' b) : Trs S' w v ts := by
  obtain ⟨xs, h1, h2, h3⟩ := h
  exact ⟨xs, h1.mono hs, h2, fun i x t hx ht => ⟨(h3 i x t hx ht).1, (h3 i x t hx ht).2.mono hs⟩⟩
theorem Trs.len {S : Nat → Prop} {w : World} {A : Option Addr} {n c : Nat} {ts : List Tear} (h : Trs S w (.slice A n c) ts) : ts.length = n ∧ n ≤ c ∧ c ≤ 9223372036854775807 := by
  obtain ⟨xs, h1, h2, h3⟩ := h
  have := h1.len
  omega
theorem Trs.at_ {S : Nat → Prop} {w : World} {A : Option Addr} {n c k : Nat} {ts : List Tear} (h : Trs S w (.slice A n c) ts) (hk : k < n) :
    ∃ (b off : Nat) (x : TV) (t : Tear), A = some ⟨b, off, none⟩ ∧ b < w.heap.size ∧ ts[k]? = some t ∧ x.keep = t.keep ∧ Recs encZ S w (.slice x.A x.n x.c) t.lost ∧ w.cell? ⟨b, off + k * 2, none⟩ = some (.int .i64 x.keep) ∧ w.cell? ⟨b, off + k * 2 + 1, none⟩ = some (.slice x.A x.n x.c) := by
  have hl := h.len
  obtain ⟨xs, h1, h2, h3⟩ := h
  obtain ⟨b, off, x, rfl, _, hb, hx, hc⟩ := h1.at_ encT_len (j := k) (by omega) (by omega)
  have hf : ts[k]? = some ts[k] := List.getElem?_eq_getElem (by omega)
  exact ⟨b, off, x, _, rfl, hb, hf, (h3 k x _ hx hf).1, (h3 k x _ hx hf).2, hc 0 _ rfl, hc 1 _ rfl⟩
end Go.Proofs.YtiblijmngokcgaaDoor
namespace Go.Proofs.YtiblijmngokcgaaDoor
open Go.RowKit
set_option maxRecDepth 100000
set_option linter.unusedVariables false
end Go.Proofs.YtiblijmngokcgaaDoor
namespace Go.Proofs.YtiblijmngokcgaaDoor
open Go.RowKit
set_option linter.unusedVariables false
end Go.Proofs.YtiblijmngokcgaaDoor
