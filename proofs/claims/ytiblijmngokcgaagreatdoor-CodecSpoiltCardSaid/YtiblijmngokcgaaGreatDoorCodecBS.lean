import Derived.Test.YtiblijmngokcgaaGreatDoorCodecAS
import Derived.Test.YtiblijmngokcgaaGreatDoorKitS
namespace Go.Proofs.YtiblijmngokcgaaGreatDoor
open Go.RowKit
set_option maxRecDepth 100000
set_option linter.unusedVariables false
abbrev InR (z : Int) : Prop := -9223372036854775808 ≤ z ∧ z ≤ 9223372036854775807
theorem encs_len : ∀ (zs : List Int), (∀ z ∈ zs, InR z) → (encs zs).length ≤ 10 * zs.length
  | [], _ => by simp [encs]
  | z :: zs, h => by
    have h1 := encs_len zs (fun z hz => h z (by simp [hz]))
    have h2 := encI_len (h z (by simp)).1 (h z (by simp)).2
    unfold encs at *
    rw [List.flatMap_cons, List.length_append, List.length_cons]
    omega
theorem encs_append (a b : List Int) : encs (a ++ b) = encs a ++ encs b := by unfold encs; exact List.flatMap_append ..
theorem litZ (w : World) (t : TypeId) (zs : List Int) (cs : Array Value) (n : Nat) (hn : n = zs.length) (h : cs.toList = zs.flatMap encZ) (hle : n ≤ 1000) : Recs encZ (fun b => b = w.heap.size) (w.alloc (.cells cs t)) (.slice (some ⟨w.heap.size, 0, none⟩) n n) zs := by
  subst hn
  refine ⟨_, zs.length, rfl, Nat.le_refl _, by unfold maxLen; omega, fun _ => ⟨w.heap.size, 0, rfl, rfl, fun j u hu => ?_⟩⟩
  rw [cell_of_row _ _ _ _ _ _ (heap_alloc_new w _), Nat.zero_add, ← h] at *
  simpa using hu
structure Ev where
  k0 : Int
  k1 : Int
  k2 : Int
  k3 : Int
  k4 : Int
  k5 : Int
  k6 : Int
deriving DecidableEq, Inhabited
def Ev.l (e : Ev) : List Int := [e.k0, e.k1, e.k2, e.k3, e.k4, e.k5, e.k6]
def encEv (e : Ev) : List Value := [.int .i64 e.k0, .int .i64 e.k1, .int .i64 e.k2, .int .i64 e.k3, .int .i64 e.k4, .int .i64 e.k5, .int .i64 e.k6]
theorem encEv_len (e : Ev) : (encEv e).length = 7 := rfl
def evV (e : Ev) : Value := .agg #[.int .i64 e.k0, .int .i64 e.k1, .int .i64 e.k2, .int .i64 e.k3, .int .i64 e.k4, .int .i64 e.k5, .int .i64 e.k6]
end Go.Proofs.YtiblijmngokcgaaGreatDoor
namespace Go.Proofs.YtiblijmngokcgaaGreatDoor
open Go.RowKit
set_option maxRecDepth 100000
set_option linter.unusedVariables false
structure PgV where
  num : Int
  A : Option Addr
  n : Nat
  c : Nat
deriving Inhabited
def encPg (x : PgV) : List Value := [.int .i64 x.num, .slice x.A x.n x.c]
theorem encPg_len (x : PgV) : (encPg x).length = 2 := rfl
structure Pg where
  num : Int
  cells : List Int
deriving DecidableEq, Inhabited
def Pg.l (p : Pg) : List Int := [p.num, (p.cells.length : Int)] ++ p.cells
def Pgs (S : Nat → Prop) (w : World) (v : Value) (ps : List Pg) : Prop := ∃ xs, Recs encPg S w v xs ∧ xs.length = ps.length ∧ ∀ (i : Nat) (x : PgV) (p : Pg), xs[i]? = some x → ps[i]? = some p → x.num = p.num ∧ Recs encZ S w (.slice x.A x.n x.c) p.cells
theorem Pgs.ext {S : Nat → Prop} {w w' : World} {v : Value} {ps : List Pg} (h : Pgs S w v ps) (hb : Below w.heap.size w w') : Pgs S w' v ps := by
  obtain ⟨xs, h1, h2, h3⟩ := h
  exact ⟨xs, h1.ext hb, h2, fun i x p hx hp => ⟨(h3 i x p hx hp).1, (h3 i x p hx hp).2.ext hb⟩⟩
theorem Pgs.len {S : Nat → Prop} {w : World} {A : Option Addr} {n c : Nat} {ps : List Pg} (h : Pgs S w (.slice A n c) ps) : ps.length = n ∧ n ≤ c ∧ c ≤ 9223372036854775807 := by
  obtain ⟨xs, h1, h2, h3⟩ := h
  have := h1.len
  omega
theorem Pgs.at_ {S : Nat → Prop} {w : World} {A : Option Addr} {n c k : Nat} {ps : List Pg} (h : Pgs S w (.slice A n c) ps) (hk : k < n) :
    ∃ (b off : Nat) (x : PgV) (p : Pg), A = some ⟨b, off, none⟩ ∧ S b ∧ b < w.heap.size ∧ ps[k]? = some p ∧ x.num = p.num ∧ Recs encZ S w (.slice x.A x.n x.c) p.cells ∧ w.cell? ⟨b, off + k * 2, none⟩ = some (.int .i64 x.num) ∧ w.cell? ⟨b, off + k * 2 + 1, none⟩ = some (.slice x.A x.n x.c) := by
  have hl := h.len
  obtain ⟨xs, h1, h2, h3⟩ := h
  obtain ⟨b, off, x, rfl, hs, hb, hx, hc⟩ := h1.at_ encPg_len (j := k) (by omega) (by omega)
  have hf : ps[k]? = some ps[k] := List.getElem?_eq_getElem (by omega)
  exact ⟨b, off, x, _, rfl, hs, hb, hf, (h3 k x _ hx hf).1, (h3 k x _ hx hf).2, hc 0 _ rfl, hc 1 _ rfl⟩
theorem flat_tk {α β : Type} (f : α → List β) (l : List α) (k : Nat) (x : α) (h : l[k]? = some x) : (l.take (k + 1)).flatMap f = (l.take k).flatMap f ++ f x := by
  rw [List.take_add_one, h, List.flatMap_append]
  simp
end Go.Proofs.YtiblijmngokcgaaGreatDoor
namespace Go.Proofs.YtiblijmngokcgaaGreatDoor
open Go.RowKit
set_option maxRecDepth 100000
set_option linter.unusedVariables false
structure Dt where
  proc : Int
  index : Int
  ev : Ev
deriving DecidableEq, Inhabited
def Dt.l (d : Dt) : List Int := [d.proc, d.index] ++ d.ev.l
def dtV (d : Dt) : Value := .agg #[.int .i64 d.proc, .int .i64 d.index, .int .i64 d.ev.k0, .int .i64 d.ev.k1, .int .i64 d.ev.k2, .int .i64 d.ev.k3, .int .i64 d.ev.k4, .int .i64 d.ev.k5, .int .i64 d.ev.k6]
theorem ag_int : ∀ w : World, (isAgg 3).run Tryz.prog w = .ok false w := fun w => by simp [isAgg, run_underlying Tryz.underlying3]
theorem ag_ints : ∀ w : World, (isAgg 23).run Tryz.prog w = .ok false w := fun w => by simp [isAgg, run_underlying Tryz.underlying23]
theorem row_cell {w : World} {g : Nat} {cs : Array Value} {e : TypeId} (h : w.heap[g]? = some (.cells cs e (0, 0))) (o : Nat) (v : Value) (hv : cs[o]? = some v) : w.cell? ⟨g, o, none⟩ = some v := by rw [cell_of_row _ _ _ _ _ _ h]; exact hv
end Go.Proofs.YtiblijmngokcgaaGreatDoor
namespace Go.Proofs.YtiblijmngokcgaaGreatDoor
open Go.RowKit
set_option maxRecDepth 100000
set_option linter.unusedVariables false
structure Snd where
  a : Int
  b : Int
  c : Int
  d : Int
deriving DecidableEq, Inhabited
def Snd.l (x : Snd) : List Int := [x.a, x.b, x.c, x.d]
def encSn (x : Snd) : List Value := [.int .i64 x.a, .int .i64 x.b, .int .i64 x.c, .int .i64 x.d]
theorem encSn_len (x : Snd) : (encSn x).length = 4 := rfl
structure Ou where
  a : Int
  b : Int
deriving DecidableEq, Inhabited
def Ou.l (x : Ou) : List Int := [x.a, x.b]
def encOu (x : Ou) : List Value := [.int .i64 x.a, .int .i64 x.b]
theorem encOu_len (x : Ou) : (encOu x).length = 2 := rfl
structure Stt where
  cells : List Int
  evs : List Ev
  sent : List Snd
  outs : List Ou
deriving DecidableEq, Inhabited
def Stt.l (s : Stt) : List Int := [(s.cells.length : Int)] ++ s.cells ++ [(s.evs.length : Int)] ++ s.evs.flatMap Ev.l ++ [(s.sent.length : Int)] ++ s.sent.flatMap Snd.l ++ [(s.outs.length : Int)] ++ s.outs.flatMap Ou.l
structure SttOk (s : Stt) : Prop where
  cells : ∀ z ∈ s.cells, InR z
  evs : ∀ e ∈ s.evs, ∀ z ∈ e.l, InR z
  sent : ∀ e ∈ s.sent, ∀ z ∈ e.l, InR z
  outs : ∀ e ∈ s.outs, ∀ z ∈ e.l, InR z
  small : s.cells.length ≤ 2000000
end Go.Proofs.YtiblijmngokcgaaGreatDoor
namespace Go.Proofs.YtiblijmngokcgaaGreatDoor
open Go.RowKit
set_option maxRecDepth 100000
set_option linter.unusedVariables false
theorem ag_evs : ∀ w : World, (isAgg 30).run Tryz.prog w = .ok false w := fun w => by simp [isAgg, run_underlying Tryz.underlying30]
theorem ag_sends : ∀ w : World, (isAgg 48).run Tryz.prog w = .ok false w := fun w => by simp [isAgg, run_underlying Tryz.underlying48]
theorem ag_outs : ∀ w : World, (isAgg 49).run Tryz.prog w = .ok false w := fun w => by simp [isAgg, run_underlying Tryz.underlying49]
end Go.Proofs.YtiblijmngokcgaaGreatDoor
namespace Go.Proofs.YtiblijmngokcgaaGreatDoor
open Go.RowKit
set_option maxRecDepth 100000
set_option linter.unusedVariables false
def bnd {α β : Type} (x : Except Nat (α × Nat)) (f : α → Nat → Except Nat (β × Nat)) : Except Nat (β × Nat) := match x with | .ok (a, q) => f a q | .error k => .error k
theorem bnd_ok {α β : Type} {x : Except Nat (α × Nat)} {f : α → Nat → Except Nat (β × Nat)} {a : α} {q : Nat} (h : x = .ok (a, q)) : bnd x f = f a q := by rw [h]; rfl
theorem bnd_er {α β : Type} {x : Except Nat (α × Nat)} {f : α → Nat → Except Nat (β × Nat)} {k : Nat} (h : x = .error k) : bnd x f = .error k := by rw [h]; rfl
def rdEv (L : List UInt8) (p : Nat) : Except Nat (Ev × Nat) := bnd (rdInt L p) fun a0 p1 => bnd (rdInt L p1) fun a1 p2 => bnd (rdInt L p2) fun a2 p3 => bnd (rdInt L p3) fun a3 p4 => bnd (rdInt L p4) fun a4 p5 => bnd (rdInt L p5) fun a5 p6 => bnd (rdInt L p6) fun a6 p7 => .ok (⟨a0, a1, a2, a3, a4, a5, a6⟩, p7)
def rdSn (L : List UInt8) (p : Nat) : Except Nat (Snd × Nat) := bnd (rdInt L p) fun a0 p1 => bnd (rdInt L p1) fun a1 p2 => bnd (rdInt L p2) fun a2 p3 => bnd (rdInt L p3) fun a3 p4 => .ok (⟨a0, a1, a2, a3⟩, p4)
def rdOu (L : List UInt8) (p : Nat) : Except Nat (Ou × Nat) := bnd (rdInt L p) fun a0 p1 => bnd (rdInt L p1) fun a1 p2 => .ok (⟨a0, a1⟩, p2)
def rdDt (L : List UInt8) (p : Nat) : Except Nat (Dt × Nat) := bnd (rdInt L p) fun a p1 => bnd (rdInt L p1) fun b p2 => bnd (rdEv L p2) fun e p3 => .ok (⟨a, b, e⟩, p3)
def rdRep {α : Type} (f : Nat → Except Nat (α × Nat)) : Nat → Nat → Except Nat (List α × Nat)
  | 0, p => .ok ([], p)
  | n + 1, p => bnd (f p) fun a q => bnd (rdRep f n q) fun l q' => .ok (a :: l, q')
def rdList {α : Type} (f : Nat → Except Nat (α × Nat)) (L : List UInt8) (p : Nat) : Except Nat (List α × Nat) :=
  bnd (rdInt L p) fun n q => if n < 0 ∨ (L.length : Int) - (q : Int) < n then .error 9 else rdRep f n.toNat q
def rdPg (L : List UInt8) (p : Nat) : Except Nat (Pg × Nat) := bnd (rdInt L p) fun a p1 => bnd (rdList (rdInt L) L p1) fun l p2 => .ok (⟨a, l⟩, p2)
def rdPgs (L : List UInt8) (p : Nat) : Except Nat (List Pg × Nat) := rdList (rdPg L) L p
def rdSt (L : List UInt8) (p : Nat) : Except Nat (Stt × Nat) := bnd (rdList (rdInt L) L p) fun a p1 => bnd (rdList (rdEv L) L p1) fun b p2 => bnd (rdList (rdSn L) L p2) fun c p3 => bnd (rdList (rdOu L) L p3) fun d p4 => .ok (⟨a, b, c, d⟩, p4)
theorem rdRep_step {α : Type} {f : Nat → Except Nat (α × Nat)} {n q q1 : Nat} {a : α} {acc : List α} (h : f q = .ok (a, q1)) : bnd (rdRep f (n + 1) q) (fun l q' => .ok (acc ++ l, q')) = bnd (rdRep f n q1) (fun l q' => .ok ((acc ++ [a]) ++ l, q')) := by
  rw [rdRep, bnd_ok h]
  cases rdRep f n q1 with
  | ok x => show Except.ok (acc ++ a :: x.1, x.2) = Except.ok (acc ++ [a] ++ x.1, x.2); rw [List.append_assoc]; rfl
  | error k => rfl
theorem rdRep_err {α β : Type} {f : Nat → Except Nat (α × Nat)} {n q k : Nat} {g : List α → Nat → Except Nat (β × Nat)} (h : f q = .error k) : bnd (rdRep f (n + 1) q) g = .error k := by
  rw [rdRep, bnd_er h]
  rfl
theorem rdList_start {α : Type} {f : Nat → Except Nat (α × Nat)} {L : List UInt8} {p q m : Nat} (h : rdInt L p = .ok ((m : Int), q)) (hm : ¬ (L.length : Int) - (q : Int) < (m : Int)) : rdList f L p = bnd (rdRep f m q) (fun l q' => .ok ([] ++ l, q')) := by
  unfold rdList
  rw [bnd_ok h, if_neg (by omega), Int.toNat_natCast]
  cases rdRep f m q with
  | ok x => rfl
  | error k => rfl
theorem rdList_bad {α : Type} {f : Nat → Except Nat (α × Nat)} {L : List UInt8} {p q : Nat} {n : Int} (h : rdInt L p = .ok (n, q)) (hm : n < 0 ∨ (L.length : Int) - (q : Int) < n) : rdList f L p = .error 9 := by
  unfold rdList
  rw [bnd_ok h, if_pos hm]
def snV (x : Snd) : Value := .agg #[.int .i64 x.a, .int .i64 x.b, .int .i64 x.c, .int .i64 x.d]
def ouV (x : Ou) : Value := .agg #[.int .i64 x.a, .int .i64 x.b]
structure RB (B r : Nat) (L : List UInt8) (T : TypeId) (c2 : Array Value) (w : World) (wr : World) (q : Nat) (c3 : Array Value) : Prop where
  rd : Rdr B wr r L q
  lt : r < w.heap.size
  gr : w.grownBy wr (some r)
  b2 : wr.heap[w.heap.size]? = some (.cells c2 T (0, 0))
  b3 : wr.heap[w.heap.size + 1]? = some (.cells c3 T (0, 0))
section
variable {B r : Nat} {L : List UInt8} {T : TypeId} {c2 : Array Value} {w wr w' : World} {q q' : Nat} {c3 : Array Value}
theorem RB.new (h : Rdr B w r L q) : ∃ W, W = (w.alloc (.cells c2 T)).alloc (.cells c3 T) ∧ RB B r L T c2 w W q c3 := by
  have hlt := h.lt
  have hb1 : Below w.heap.size w (w.alloc (.cells c2 T)) := (Below.refl _ w).alloc (Nat.le_refl _) _
  have hb2 : Below (w.alloc (.cells c2 T)).heap.size (w.alloc (.cells c2 T)) ((w.alloc (.cells c2 T)).alloc (.cells c3 T)) := (Below.refl _ _).alloc (Nat.le_refl _) _
  have hb := Below.ext hb1 hb2
  refine ⟨_, rfl, h.ext hb, hlt, ⟨hb.os, hb.tape, hb.output, hb.size, fun i hi _ => hb.block i hi⟩, (hb2.block _ (by simp)).trans (heap_alloc_new _ _), ?_⟩
  have := heap_alloc_new (w.alloc (.cells c2 T)) (.cells c3 T)
  rwa [World.size_alloc] at this
theorem RB.sz (h : RB B r L T c2 w wr q c3) : w.heap.size + 2 ≤ wr.heap.size := (Array.getElem?_eq_some_iff.1 h.b3).1
theorem RB.call (h : RB B r L T c2 w wr q c3) (hR : Rdr B w' r L q') (hg : wr.grownBy w' (some r)) : RB B r L T c2 w w' q' c3 :=
  have hs := h.sz
  have hl := h.lt
  ⟨hR, h.lt, grown_tr h.gr hg, (hg.block _ (by omega) (by simp; omega)).trans h.b2, (hg.block _ (by omega) (by simp; omega)).trans h.b3⟩
theorem RB.set (h : RB B r L T c2 w wr q c3) (o : Nat) (v : Value) : RB B r L T c2 w (wr.setCell ⟨w.heap.size + 1, o, none⟩ v) q (c3.setIfInBounds o v) :=
  have hs := h.sz
  have hl := h.lt
  have hB := h.rd.1
  have hg : wr.grownBy (wr.setCell ⟨w.heap.size + 1, o, none⟩ v) (some (w.heap.size + 1)) := grown_set ⟨rfl, rfl, rfl, Nat.le_refl _, fun _ _ _ => rfl⟩
  ⟨h.rd.grown hg (fun m hm => by cases hm; omega), h.lt, ⟨hg.os.trans h.gr.os, hg.tape.trans h.gr.tape, hg.output.trans h.gr.output, Nat.le_trans h.gr.size hg.size, fun i hi hne => (hg.block i (Nat.lt_of_lt_of_le hi h.gr.size) (by simp; omega)).trans (h.gr.block i hi hne)⟩,
    (hg.block _ (by omega) (by simp)).trans h.b2, heap_setCell_same _ _ o _ _ _ h.b3⟩
theorem RB.end_ (h : RB B r L T c2 w wr q c3) (cs : Array Value) : Rdr B (wr.setRow w.heap.size cs) r L q ∧ w.grownBy (wr.setRow w.heap.size cs) (some r) :=
  have hs := h.sz
  have hl := h.lt
  have hB := h.rd.1
  have hg := grown_setRow wr w.heap.size cs
  ⟨h.rd.grown hg (fun m hm => by cases hm; omega), ⟨hg.os.trans h.gr.os, hg.tape.trans h.gr.tape, hg.output.trans h.gr.output, Nat.le_trans h.gr.size hg.size, fun i hi hne => (hg.block i (Nat.lt_of_lt_of_le hi h.gr.size) (by simp; omega)).trans (h.gr.block i hi hne)⟩⟩
theorem RB.cell (h : RB B r L T c2 w wr q c3) (o : Nat) {v : Value} (hv : c3[o]? = some v) : wr.cell? ⟨w.heap.size + 1, o, none⟩ = some v := by rw [cell_of_row _ _ _ _ _ _ h.b3]; exact hv
theorem RB.frz (h : RB B r L T c2 w wr q c3) (o : Nat) : wr.frozen? ⟨w.heap.size + 1, o, none⟩ = false := frozen_of_row _ _ _ _ _ h.b3
end
end Go.Proofs.YtiblijmngokcgaaGreatDoor
