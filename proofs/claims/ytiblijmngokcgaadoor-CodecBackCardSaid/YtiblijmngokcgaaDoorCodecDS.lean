import Derived.Test.YtiblijmngokcgaaDoorCodecCS
import Derived.Test.YtiblijmngokcgaaDoorKitS
import Derived.Deep.Cut
import Derived.Deep.CutRange
import Derived.Deep.CutBlock
namespace Go.Proofs.YtiblijmngokcgaaDoor
open Go.RowKit
set_option maxRecDepth 100000
set_option linter.unusedVariables false
def bndS {α : Type} (s : Except Nat Nat) (f : Nat → Except Nat (α × Nat)) : Except Nat (α × Nat) := match s with | .ok p => f p | .error k => .error k
def stOf {α : Type} (x : Except Nat (α × Nat)) : Except Nat Nat := match x with | .ok (_, q) => .ok q | .error k => .error k
def StepF {α : Type} (f : Nat → Except Nat (α × Nat)) (s : Except Nat Nat) (a : α) (s' : Except Nat Nat) : Prop := s' = stOf (bndS s f) ∧ ∀ b q, bndS s f = .ok (b, q) → a = b
theorem StepF.pure_ {α : Type} (c : α) (s : Except Nat Nat) : StepF (fun p => .ok (c, p)) s c s := by
  cases s with
  | ok p => exact ⟨rfl, fun b q h => by cases h; rfl⟩
  | error k => exact ⟨rfl, fun b q h => by cases h⟩
theorem StepF.er {α : Type} (f : Nat → Except Nat (α × Nat)) (k : Nat) (a : α) : StepF f (.error k) a (.error k) := ⟨rfl, fun b q h => by cases h⟩
theorem StepF.comp {α β : Type} {f : Nat → Except Nat (α × Nat)} {g : α → Nat → Except Nat (β × Nat)} {s s1 s2 : Except Nat Nat} {a : α} {c : β} (h1 : StepF f s a s1) (h2 : StepF (g a) s1 c s2) : StepF (fun p => bnd (f p) g) s c s2 := by
  obtain ⟨rfl, h1⟩ := h1
  cases s with
  | error k => exact ⟨h2.1, fun b q h => by cases h⟩
  | ok p =>
    cases hf : f p with
    | error k =>
      have e1 : bndS (.ok p) f = .error k := hf
      rw [e1] at h2
      refine ⟨?_, fun b q h => ?_⟩
      · rw [h2.1]
        show _ = stOf (bnd (f p) g)
        rw [bnd_er hf]
        rfl
      · have h' : bnd (f p) g = .ok (b, q) := h
        rw [bnd_er hf] at h'
        cases h'
    | ok vq =>
      obtain ⟨b0, q0⟩ := vq
      have e1 : bndS (.ok p) f = .ok (b0, q0) := hf
      have := h1 b0 q0 e1
      subst this
      rw [e1] at h2
      refine ⟨?_, fun b q h => ?_⟩
      · rw [h2.1]
        show _ = stOf (bnd (f p) g)
        rw [bnd_ok hf]
        rfl
      · have h' : bnd (f p) g = .ok (b, q) := h
        rw [bnd_ok hf] at h'
        exact h2.2 b q h'
theorem StepF.cons {α : Type} {f : Nat → Except Nat (α × Nat)} {s s1 s2 : Except Nat Nat} {n : Nat} {a : α} {l : List α} (h1 : StepF f s a s1) (h2 : StepF (rdRep f n) s1 l s2) : StepF (rdRep f (n + 1)) s (a :: l) s2 :=
  StepF.comp (g := fun a q => bnd (rdRep f n q) fun l q' => .ok (a :: l, q')) h1 (StepF.comp (g := fun l q' => .ok (a :: l, q')) h2 (StepF.pure_ _ _))
theorem StepF.to {α : Type} {f g : Nat → Except Nat (α × Nat)} {s s' : Except Nat Nat} {a : α} (h : StepF f s a s') (e : ∀ p, f p = g p) : StepF g s a s' := by
  have : f = g := funext e
  rw [← this]
  exact h
section
variable {B r : Nat} {L : List UInt8} {T : TypeId} {c2 : Array Value} {w wr w' : World} {s s' : Except Nat Nat} {c3 : Array Value}
end
end Go.Proofs.YtiblijmngokcgaaDoor
namespace Go.Proofs.YtiblijmngokcgaaDoor
open Go.RowKit
set_option maxRecDepth 100000
set_option linter.unusedVariables false
theorem StepF.ok_ {α : Type} {f : Nat → Except Nat (α × Nat)} {s : Except Nat Nat} {a : α} {q : Nat} (h : StepF f s a (.ok q)) : bndS s f = .ok (a, q) := by
  obtain ⟨h1, h2⟩ := h
  cases hx : bndS s f with
  | error k => rw [hx] at h1; cases h1
  | ok vq =>
    obtain ⟨b, q'⟩ := vq
    have := h2 b q' hx
    subst this
    rw [hx] at h1
    cases h1
    rfl
section
variable {B r : Nat} {L : List UInt8} {T : TypeId} {b4 b8 : Nat} {c4 : Array Value} {w wr w' : World} {s s' : Except Nat Nat} {c8 : Array Value}
end
end Go.Proofs.YtiblijmngokcgaaDoor
namespace Go.Proofs.YtiblijmngokcgaaDoor
open Go.RowKit
set_option maxRecDepth 100000
set_option linter.unusedVariables false
section
variable {B r : Nat} {L : List UInt8} {T : TypeId} {w wr w' : World} {s s' : Except Nat Nat} {c8 : Array Value}
end
end Go.Proofs.YtiblijmngokcgaaDoor
namespace Go.Proofs.YtiblijmngokcgaaDoor
open Go.RowKit
set_option maxRecDepth 100000
set_option linter.unusedVariables false
def StV (S : Nat → Prop) (w : World) (v : Value) (s : Stt) : Prop := ∃ A1 c1 A2 c2 A3 c3 A4 c4, v = .agg #[.slice A1 s.cells.length c1, .slice A2 s.evs.length c2, .slice A3 s.sent.length c3, .slice A4 s.outs.length c4] ∧ Recs encZ S w (.slice A1 s.cells.length c1) s.cells ∧ Recs encEv S w (.slice A2 s.evs.length c2) s.evs ∧ Recs encSn S w (.slice A3 s.sent.length c3) s.sent ∧ Recs encOu S w (.slice A4 s.outs.length c4) s.outs
section
variable {L : List UInt8} {w wr w' : World} {b8 base : Nat} {cs : Array Value} {K : World → Prop} {s s' : Except Nat Nat}
end
end Go.Proofs.YtiblijmngokcgaaDoor
