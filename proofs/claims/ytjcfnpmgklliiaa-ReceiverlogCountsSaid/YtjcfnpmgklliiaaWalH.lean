/-
  More words for the laws of the log: a disk of two files that is written out, two files out of bytes, two numbers.
-/
import Derived.Test.YtjcfnpmgklliiaaWalG
import Derived.Test.YtjcfnpmgklliiaaOwnPut
namespace Go.Proofs.Ytjcfnpmgklliiaa
open Go.RowKit
set_option linter.unusedVariables false
set_option linter.unusedSimpArgs false

theorem q_plain {o : Oper} (h : plainOp o = true) : kindOf o = 0 := by
  unfold plainOp at h
  split at h
  · cases h
  · simpa using h
theorem lit_files2 (w : World) (x y : FV) (f g : Fil) (S : Nat → Prop) (h1 : FOk S w x f) (h2 : FOk S w y g) :
    Dsk (fun b => S b ∨ w.heap.size ≤ b) (w.alloc (.cells #[.slice x.A1 x.n1 x.c1, .slice x.A2 x.n2 x.c2, .slice y.A1 y.n1 y.c1, .slice y.A2 y.n2 y.c2] 42)) (.slice (some ⟨w.heap.size, 0, none⟩) 2 2) [f, g] := by
  have hb : Below w.heap.size w (w.alloc (.cells #[.slice x.A1 x.n1 x.c1, .slice x.A2 x.n2 x.c2, .slice y.A1 y.n1 y.c1, .slice y.A2 y.n2 y.c2] 42)) := (Below.refl _ _).alloc (Nat.le_refl _) _
  refine ⟨[x, y], ⟨_, 2, rfl, by simp, by simp [maxLen], Cs.lit _ _ _ _ _ (.inr (Nat.le_refl _)) rfl⟩, rfl, ?_⟩
  intro i a c hx hf
  match i, hx, hf with
  | 0, hx, hf =>
    simp at hx hf
    subst hx hf
    exact (h1.ext hb).mono (fun _ _ h => .inl h)
  | 1, hx, hf =>
    simp at hx hf
    subst hx hf
    exact (h2.ext hb).mono (fun _ _ h => .inl h)
  | i + 2, hx, hf => simp at hx
theorem lit_two (w : World) (x y : Int) : Recs encZ (fun _ => True) (w.alloc (.cells #[.int .i64 x, .int .i64 y] 3)) (.slice (some ⟨w.heap.size, 0, none⟩) 2 2) [x, y] := ⟨_, 2, rfl, by simp, by simp [maxLen], Cs.lit _ _ _ _ _ trivial rfl⟩
theorem lit_lists4 (w : World) (A1 A2 A3 A4 : Option Addr) (n1 c1 n2 c2 n3 c3 n4 c4 : Nat) (l1 l2 l3 l4 : List UInt8) (S : Nat → Prop) (h1 : Bytes S w (.slice A1 n1 c1) l1) (h2 : Bytes S w (.slice A2 n2 c2) l2) (h3 : Bytes S w (.slice A3 n3 c3) l3) (h4 : Bytes S w (.slice A4 n4 c4) l4) :
    Lists (fun _ => True) (w.alloc (.cells #[.slice A1 n1 c1, .slice A2 n2 c2, .slice A3 n3 c3, .slice A4 n4 c4] 22)) (.slice (some ⟨w.heap.size, 0, none⟩) 4 4) [l1, l2, l3, l4] := by
  have hb : Below w.heap.size w (w.alloc (.cells #[.slice A1 n1 c1, .slice A2 n2 c2, .slice A3 n3 c3, .slice A4 n4 c4] 22)) := (Below.refl _ _).alloc (Nat.le_refl _) _
  refine ⟨_, 4, [.slice A1 n1 c1, .slice A2 n2 c2, .slice A3 n3 c3, .slice A4 n4 c4], rfl, by simp, by simp [maxLen], rfl, Cs.lit _ _ _ _ _ trivial rfl, ?_⟩
  intro i x li hx hl
  match i, hx, hl with
  | 0, hx, hl => simp at hx hl; subst hx hl; exact (h1.ext hb).mono (fun _ _ _ => trivial)
  | 1, hx, hl => simp at hx hl; subst hx hl; exact (h2.ext hb).mono (fun _ _ _ => trivial)
  | 2, hx, hl => simp at hx hl; subst hx hl; exact (h3.ext hb).mono (fun _ _ _ => trivial)
  | 3, hx, hl => simp at hx hl; subst hx hl; exact (h4.ext hb).mono (fun _ _ _ => trivial)
  | i + 4, hx, hl => simp at hx
def oddDt : Dt := ⟨1, 0, 0, 0, 0, 0, 0, 0, 0⟩
theorem oddDt_in : DtIn oddDt := by
  intro z hz
  simp [oddDt, Dt.l, Ev.l] at hz
  rcases hz with h | h <;> subst h <;> exact ⟨by omega, by omega⟩
theorem oddB_len : (detB oddDt ++ [0]).length ≤ 91 := by
  have := detB_len oddDt_in
  simp
  omega
end Go.Proofs.Ytjcfnpmgklliiaa
