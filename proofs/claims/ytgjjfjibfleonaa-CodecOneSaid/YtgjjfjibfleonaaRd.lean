/-
  What is read: plain.
-/
import Derived.Test.YtgjjfjibfleonaaPutR
import Derived.Test.YtgjjfjibfleonaaCodecLaw
namespace Go.Proofs.Ytgjjfjibfleonaa
open Go.RowKit
set_option maxRecDepth 100000
set_option linter.unusedVariables false

/-- read, and go on -/
def bnd {α β : Type} (x : Except Nat (α × Nat)) (f : α → Nat → Except Nat (β × Nat)) : Except Nat (β × Nat) := match x with | .ok (a, q) => f a q | .error k => .error k
theorem bnd_ok {α β : Type} {x : Except Nat (α × Nat)} {f : α → Nat → Except Nat (β × Nat)} {a : α} {q : Nat} (h : x = .ok (a, q)) : bnd x f = f a q := by rw [h]; rfl
theorem bnd_er {α β : Type} {x : Except Nat (α × Nat)} {f : α → Nat → Except Nat (β × Nat)} {k : Nat} (h : x = .error k) : bnd x f = .error k := by rw [h]; rfl
def rdEv (L : List UInt8) (p : Nat) : Except Nat (Ev × Nat) := bnd (rdInt L p) fun a0 p1 => bnd (rdInt L p1) fun a1 p2 => bnd (rdInt L p2) fun a2 p3 => bnd (rdInt L p3) fun a3 p4 => bnd (rdInt L p4) fun a4 p5 => bnd (rdInt L p5) fun a5 p6 => bnd (rdInt L p6) fun a6 p7 => .ok (⟨a0, a1, a2, a3, a4, a5, a6⟩, p7)
def rdSn (L : List UInt8) (p : Nat) : Except Nat (Snd × Nat) := bnd (rdInt L p) fun a0 p1 => bnd (rdInt L p1) fun a1 p2 => bnd (rdInt L p2) fun a2 p3 => bnd (rdInt L p3) fun a3 p4 => .ok (⟨a0, a1, a2, a3⟩, p4)
def rdOu (L : List UInt8) (p : Nat) : Except Nat (Ou × Nat) := bnd (rdInt L p) fun a0 p1 => bnd (rdInt L p1) fun a1 p2 => .ok (⟨a0, a1⟩, p2)
def rdDt (L : List UInt8) (p : Nat) : Except Nat (Dt × Nat) := bnd (rdInt L p) fun a p1 => bnd (rdInt L p1) fun b p2 => bnd (rdEv L p2) fun e p3 => .ok (⟨a, b, e⟩, p3)
def rdRep {α : Type} (f : Nat → Except Nat (α × Nat)) : Nat → Nat → Except Nat (List α × Nat)
  | 0, p => .ok ([], p)
  | n + 1, p => bnd (f p) fun a q => bnd (rdRep f n q) fun l q' => .ok (a :: l, q')
def rdList {α : Type} (f : Nat → Except Nat (α × Nat)) (L : List UInt8) (p : Nat) : Except Nat (List α × Nat) :=
  bnd (rdInt L p) fun n q => if n < 0 ∨ (L.length : Int) - (q : Int) < n then .error 9 else rdRep f n.toNat q
def rdPg (L : List UInt8) (p : Nat) : Except Nat (Pg × Nat) := bnd (rdInt L p) fun a p1 => bnd (rdList (rdInt L) L p1) fun l p2 => .ok (⟨a, l⟩, p2)
def rdPgs (L : List UInt8) (p : Nat) : Except Nat (List Pg × Nat) := rdList (rdPg L) L p
def rdSt (L : List UInt8) (p : Nat) : Except Nat (Stt × Nat) := bnd (rdList (rdInt L) L p) fun a p1 => bnd (rdList (rdEv L) L p1) fun b p2 => bnd (rdList (rdSn L) L p2) fun c p3 => bnd (rdList (rdOu L) L p3) fun d p4 => .ok (⟨a, b, c, d⟩, p4)
/-- a list that is read, told from its middle -/
theorem rdRep_step {α : Type} {f : Nat → Except Nat (α × Nat)} {n q q1 : Nat} {a : α} {acc : List α} (h : f q = .ok (a, q1)) : bnd (rdRep f (n + 1) q) (fun l q' => .ok (acc ++ l, q')) = bnd (rdRep f n q1) (fun l q' => .ok ((acc ++ [a]) ++ l, q')) := by
  rw [rdRep, bnd_ok h]
  cases rdRep f n q1 with
  | ok x => show Except.ok (acc ++ a :: x.1, x.2) = Except.ok (acc ++ [a] ++ x.1, x.2); rw [List.append_assoc]; rfl
  | error k => rfl
theorem rdRep_err {α β : Type} {f : Nat → Except Nat (α × Nat)} {n q k : Nat} {g : List α → Nat → Except Nat (β × Nat)} (h : f q = .error k) : bnd (rdRep f (n + 1) q) g = .error k := by
  rw [rdRep, bnd_er h]
  rfl
theorem rdList_start {α : Type} {f : Nat → Except Nat (α × Nat)} {L : List UInt8} {p q m : Nat} (h : rdInt L p = .ok ((m : Int), q)) (hm : ¬ (L.length : Int) - (q : Int) < (m : Int)) : rdList f L p = bnd (rdRep f m q) (fun l q' => .ok ([] ++ l, q')) := by
  unfold rdList
  rw [bnd_ok h, if_neg (by omega), Int.toNat_natCast]
  cases rdRep f m q with
  | ok x => rfl
  | error k => rfl
theorem rdList_bad {α : Type} {f : Nat → Except Nat (α × Nat)} {L : List UInt8} {p q : Nat} {n : Int} (h : rdInt L p = .ok (n, q)) (hm : n < 0 ∨ (L.length : Int) - (q : Int) < n) : rdList f L p = .error 9 := by
  unfold rdList
  rw [bnd_ok h, if_pos hm]
def snV (x : Snd) : Value := .agg #[.int .i64 x.a, .int .i64 x.b, .int .i64 x.c, .int .i64 x.d]
def ouV (x : Ou) : Value := .agg #[.int .i64 x.a, .int .i64 x.b]

/-- a reader and two boxes of a struct: the result's and the variable's -/
structure RB (B r : Nat) (L : List UInt8) (T : TypeId) (c2 : Array Value) (w : World) (wr : World) (q : Nat) (c3 : Array Value) : Prop where
  rd : Rdr B wr r L q
  lt : r < w.heap.size
  gr : w.grownBy wr (some r)
  b2 : wr.heap[w.heap.size]? = some (.cells c2 T (0, 0))
  b3 : wr.heap[w.heap.size + 1]? = some (.cells c3 T (0, 0))
section
variable {B r : Nat} {L : List UInt8} {T : TypeId} {c2 : Array Value} {w wr w' : World} {q q' : Nat} {c3 : Array Value}
theorem RB.new (h : Rdr B w r L q) : ∃ W, W = (w.alloc (.cells c2 T)).alloc (.cells c3 T) ∧ RB B r L T c2 w W q c3 := by
  have hlt := h.lt
  have hb1 : Below w.heap.size w (w.alloc (.cells c2 T)) := (Below.refl _ w).alloc (Nat.le_refl _) _
  have hb2 : Below (w.alloc (.cells c2 T)).heap.size (w.alloc (.cells c2 T)) ((w.alloc (.cells c2 T)).alloc (.cells c3 T)) := (Below.refl _ _).alloc (Nat.le_refl _) _
  have hb := Below.ext hb1 hb2
  refine ⟨_, rfl, h.ext hb, hlt, ⟨hb.os, hb.tape, hb.output, hb.size, fun i hi _ => hb.block i hi⟩, (hb2.block _ (by simp)).trans (heap_alloc_new _ _), ?_⟩
  have := heap_alloc_new (w.alloc (.cells c2 T)) (.cells c3 T)
  rwa [World.size_alloc] at this
theorem RB.sz (h : RB B r L T c2 w wr q c3) : w.heap.size + 2 ≤ wr.heap.size := (Array.getElem?_eq_some_iff.1 h.b3).1
theorem RB.call (h : RB B r L T c2 w wr q c3) (hR : Rdr B w' r L q') (hg : wr.grownBy w' (some r)) : RB B r L T c2 w w' q' c3 :=
  have hs := h.sz
  have hl := h.lt
  ⟨hR, h.lt, grown_tr h.gr hg, (hg.block _ (by omega) (by simp; omega)).trans h.b2, (hg.block _ (by omega) (by simp; omega)).trans h.b3⟩
theorem RB.set (h : RB B r L T c2 w wr q c3) (o : Nat) (v : Value) : RB B r L T c2 w (wr.setCell ⟨w.heap.size + 1, o, none⟩ v) q (c3.setIfInBounds o v) :=
  have hs := h.sz
  have hl := h.lt
  have hB := h.rd.1
  have hg : wr.grownBy (wr.setCell ⟨w.heap.size + 1, o, none⟩ v) (some (w.heap.size + 1)) := grown_set ⟨rfl, rfl, rfl, Nat.le_refl _, fun _ _ _ => rfl⟩
  ⟨h.rd.grown hg (fun m hm => by cases hm; omega), h.lt, ⟨hg.os.trans h.gr.os, hg.tape.trans h.gr.tape, hg.output.trans h.gr.output, Nat.le_trans h.gr.size hg.size, fun i hi hne => (hg.block i (Nat.lt_of_lt_of_le hi h.gr.size) (by simp; omega)).trans (h.gr.block i hi hne)⟩,
    (hg.block _ (by omega) (by simp)).trans h.b2, heap_setCell_same _ _ o _ _ _ h.b3⟩
theorem RB.end_ (h : RB B r L T c2 w wr q c3) (cs : Array Value) : Rdr B (wr.setRow w.heap.size cs) r L q ∧ w.grownBy (wr.setRow w.heap.size cs) (some r) :=
  have hs := h.sz
  have hl := h.lt
  have hB := h.rd.1
  have hg := grown_setRow wr w.heap.size cs
  ⟨h.rd.grown hg (fun m hm => by cases hm; omega), ⟨hg.os.trans h.gr.os, hg.tape.trans h.gr.tape, hg.output.trans h.gr.output, Nat.le_trans h.gr.size hg.size, fun i hi hne => (hg.block i (Nat.lt_of_lt_of_le hi h.gr.size) (by simp; omega)).trans (h.gr.block i hi hne)⟩⟩
theorem RB.cell (h : RB B r L T c2 w wr q c3) (o : Nat) {v : Value} (hv : c3[o]? = some v) : wr.cell? ⟨w.heap.size + 1, o, none⟩ = some v := by rw [cell_of_row _ _ _ _ _ _ h.b3]; exact hv
theorem RB.frz (h : RB B r L T c2 w wr q c3) (o : Nat) : wr.frozen? ⟨w.heap.size + 1, o, none⟩ = false := frozen_of_row _ _ _ _ _ h.b3
end
end Go.Proofs.Ytgjjfjibfleonaa
