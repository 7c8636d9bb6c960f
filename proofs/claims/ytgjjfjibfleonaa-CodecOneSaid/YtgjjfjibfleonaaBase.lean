/-
  Words for memory that all texts of this seat use: a slice of bytes that reads as a list; worlds that keep what was there. No program is named here.
-/
import Derived.WalkKit
import Derived.WalkSpells
import Derived.WalkLawsBesides
import Derived.Lib.Hide
import Derived.Lib.SlBytesConst
import Derived.Outline
import Derived.Deep.MidRow
import Derived.Deep.Draws
import Derived.Laws.Rows
import Derived.Laws.Tables
import Derived.Deep.WholeRow
namespace Go.Proofs.Ytgjjfjibfleonaa
open Go.RowKit
set_option linter.unusedVariables false

theorem ret_int {k : IntKind} {a b : Int} (h : a = b) : Ending.returned (.int k a) = .returned (.int k b) := by rw [h]
theorem ret_bool {a b : Bool} (h : a = b) : Ending.returned (.bool a) = .returned (.bool b) := by rw [h]
/-- a byte as a value -/
def bv (c : UInt8) : Value := .int .u8 (c.toNat : Int)
theorem bv_def (c : UInt8) : bv c = .int .u8 (c.toNat : Int) := rfl
theorem u8_lt (c : UInt8) : c.toNat < 256 := c.toNat_lt

/-- the cells from an address on, in a block of S -/
def Cs (S : Nat → Prop) (w : World) (A : Option Addr) (xs : List Value) : Prop :=
  0 < xs.length → ∃ b off, A = some ⟨b, off, none⟩ ∧ S b ∧ ∀ j u, xs[j]? = some u → w.cell? ⟨b, off + j, none⟩ = some u

/-- blocks of S that were there are as they were -/
def Keep (S : Nat → Prop) (w w' : World) : Prop := ∀ b, b < w.heap.size → S b → w'.heap[b]? = w.heap[b]?

theorem Below.ext {w w1 w2 : World} (h : Below w.heap.size w w1) (k : Below w1.heap.size w1 w2) : Below w.heap.size w w2 := h.trans (k.mono h.size)
theorem grown_set {w wr : World} {g j : Nat} {v : Value} (h : w.grownBy wr (some g)) : w.grownBy (wr.setCell ⟨g, j, none⟩ v) (some g) :=
  ⟨h.os, h.tape, h.output, by simpa [World.setCell] using h.size, fun k hk hne => (Below.heap_setCell wr ⟨g, j, none⟩ v k (fun e => hne (by rw [e]))).trans (h.block k hk hne)⟩
/-- only a block that was made since has changed -/
theorem Below.grow {w w1 w2 : World} {g : Nat} (h : Below w.heap.size w w1) (hg : w1.grownBy w2 (some g)) (hle : w.heap.size ≤ g) : Below w.heap.size w w2 := h.grown hg h.size (fun k e => by cases e; exact hle)
theorem Keep.of_below {S : Nat → Prop} {w w' : World} (h : Below w.heap.size w w') : Keep S w w' := fun b hb _ => h.block b hb
theorem Keep.of_grown {w w' : World} {m : Nat} (h : w.grownBy w' (some m)) : Keep (· ≠ m) w w' := fun b hb hs => h.block b hb (by simpa using hs)
theorem Keep.cell {S : Nat → Prop} {w w' : World} (h : Keep S w w') {b o : Nat} {v : Value} (hs : S b) (hc : w.cell? ⟨b, o, none⟩ = some v) : w'.cell? ⟨b, o, none⟩ = some v :=
  (World.cell?_of_block (h b (block_lt_of_cell hc) hs)).trans hc

theorem Cs.keep {S : Nat → Prop} {w w' : World} {A : Option Addr} {xs : List Value} (h : Cs S w A xs) (hk : Keep S w w') : Cs S w' A xs := fun hn => by
  obtain ⟨b, off, rfl, hs, hc⟩ := h hn
  exact ⟨b, off, rfl, hs, fun j u hu => hk.cell hs (hc j u hu)⟩
theorem Cs.mono {S S' : Nat → Prop} {w : World} {A : Option Addr} {xs : List Value} (h : Cs S w A xs) (hs : ∀ b, b < w.heap.size → S b → S' b) : Cs S' w A xs := fun hn => by
  obtain ⟨b, off, rfl, hb, hc⟩ := h hn
  refine ⟨b, off, rfl, hs b ?_ hb, hc⟩
  have := hc 0 (xs[0]) (List.getElem?_eq_getElem hn)
  exact block_lt_of_cell this
theorem Cs.nil_ (S : Nat → Prop) (w : World) (A : Option Addr) : Cs S w A [] := fun h => absurd h (by simp)
theorem Cs.at_ {S : Nat → Prop} {w : World} {A : Option Addr} {xs : List Value} {k : Nat} {u : Value} (h : Cs S w A xs) (hu : xs[k]? = some u) :
    ∃ b off, A = some ⟨b, off, none⟩ ∧ S b ∧ b < w.heap.size ∧ w.cell? ⟨b, off + k, none⟩ = some u := by
  obtain ⟨hk, _⟩ := List.getElem?_eq_some_iff.1 hu
  obtain ⟨b, off, rfl, hs, hc⟩ := h (by omega)
  exact ⟨b, off, rfl, hs, block_lt_of_cell (hc k u hu), hc k u hu⟩
theorem Cs.drop_ {S : Nat → Prop} {w : World} {A : Option Addr} {xs : List Value} (h : Cs S w A xs) (k : Nat) {c : Prop} [Decidable c] (hc : c → xs.length ≤ k) :
    Cs S w (if c then A else A.map (·.add k)) (xs.drop k) := fun hn => by
  rw [List.length_drop] at hn
  obtain ⟨b, off, rfl, hs, hcell⟩ := h (by omega)
  rw [if_neg (fun e => by have := hc e; omega)]
  refine ⟨b, off + k, by simp [Addr.add_mid], hs, fun j u hu => ?_⟩
  rw [List.getElem?_drop] at hu
  rw [Nat.add_assoc]
  exact hcell _ u hu
theorem Cs.take_ {S : Nat → Prop} {w : World} {A : Option Addr} {xs : List Value} (h : Cs S w A xs) (k : Nat) : Cs S w A (xs.take k) := fun hn => by
  rw [List.length_take] at hn
  obtain ⟨b, off, rfl, hs, hcell⟩ := h (by omega)
  refine ⟨b, off, rfl, hs, fun j u hu => hcell j u ?_⟩
  rw [List.getElem?_take] at hu
  split at hu
  · exact hu
  · cases hu

/-- a slice of bytes -/
def Bytes (S : Nat → Prop) (w : World) (v : Value) (l : List UInt8) : Prop := ∃ A c, v = .slice A l.length c ∧ l.length ≤ c ∧ c ≤ maxLen ∧ Cs S w A (l.map bv)
theorem Bytes.keep {S : Nat → Prop} {w w' : World} {v : Value} {l : List UInt8} (h : Bytes S w v l) (hk : Keep S w w') : Bytes S w' v l := by
  obtain ⟨A, c, rfl, h1, h2, h3⟩ := h
  exact ⟨A, c, rfl, h1, h2, h3.keep hk⟩
theorem Bytes.ext {S : Nat → Prop} {w w' : World} {v : Value} {l : List UInt8} (h : Bytes S w v l) (hk : Below w.heap.size w w') : Bytes S w' v l := h.keep (Keep.of_below hk)
theorem Bytes.mono {S S' : Nat → Prop} {w : World} {v : Value} {l : List UInt8} (h : Bytes S w v l) (hs : ∀ b, b < w.heap.size → S b → S' b) : Bytes S' w v l := by
  obtain ⟨A, c, rfl, h1, h2, h3⟩ := h
  exact ⟨A, c, rfl, h1, h2, h3.mono hs⟩
theorem Bytes.drew {S : Nat → Prop} {w : World} {v : Value} {l : List UInt8} (h : Bytes S w v l) : Bytes S w.drew v l := h
theorem Bytes.nil_ (S : Nat → Prop) (w : World) : Bytes S w (.slice none 0 0) [] := ⟨none, 0, rfl, by simp, by simp [maxLen], Cs.nil_ _ _ _⟩
theorem Cs.byte {S : Nat → Prop} {w : World} {A : Option Addr} {l : List UInt8} {k : Nat} (h : Cs S w A (l.map bv)) (hk : k < l.length) :
    ∃ b off x, A = some ⟨b, off, none⟩ ∧ S b ∧ b < w.heap.size ∧ l[k]? = some x ∧ w.cell? ⟨b, off + k, none⟩ = some (.int .u8 (x.toNat : Int)) := by
  obtain ⟨b, off, rfl, hs, hb, hc⟩ := h.at_ (k := k) (u := bv l[k]) (by simp [hk])
  exact ⟨b, off, l[k], rfl, hs, hb, List.getElem?_eq_getElem hk, hc⟩

theorem Cs.lit {S : Nat → Prop} (w : World) (C : Array Value) (e : TypeId) (fr : Nat × Nat) (xs : List Value) (hS : S w.heap.size) (h : C.toList.take xs.length = xs) :
    Cs S (w.alloc (.cells C e fr)) (some ⟨w.heap.size, 0, none⟩) xs := fun _ => by
  refine ⟨_, 0, rfl, hS, fun j u hu => ?_⟩
  rw [cell_of_row _ _ _ C e fr (heap_alloc_new w _)]
  rw [← h, List.getElem?_take] at hu
  split at hu
  · simpa using hu
  · cases hu
theorem Bytes.lit {S : Nat → Prop} (w : World) (C : Array Value) (e : TypeId) (fr : Nat × Nat) (l : List UInt8) (n c : Nat) (hS : S w.heap.size) (hn : l.length = n) (hc : n ≤ c) (hm : c ≤ maxLen) (h : C.toList.take n = l.map bv) :
    Bytes S (w.alloc (.cells C e fr)) (.slice (some ⟨w.heap.size, 0, none⟩) n c) l := by
  subst hn
  exact ⟨_, c, rfl, hc, hm, Cs.lit w C e fr _ hS (by simpa using h)⟩

theorem Bytes.take_ {S : Nat → Prop} {w : World} {A : Option Addr} {n c : Nat} {l : List UInt8} (h : Bytes S w (.slice A n c) l) {k : Nat} (hk : k ≤ n) : Bytes S w (.slice A k c) (l.take k) := by
  obtain ⟨A', c', e, h1, h2, h3⟩ := h
  cases e
  exact ⟨A, c, by rw [List.length_take, Nat.min_eq_left hk], by rw [List.length_take, Nat.min_eq_left hk]; omega, h2, by rw [List.map_take]; exact h3.take_ k⟩
theorem Bytes.clip {S : Nat → Prop} {w : World} {A : Option Addr} {n c c' : Nat} {l : List UInt8} (h : Bytes S w (.slice A n c) l) (h1 : n ≤ c') (h2 : c' ≤ maxLen) : Bytes S w (.slice A n c') l := by
  obtain ⟨A', c'', e, g1, g2, g3⟩ := h
  cases e
  exact ⟨A, c', rfl, h1, h2, g3⟩
theorem Bytes.len {S : Nat → Prop} {w : World} {A : Option Addr} {n c : Nat} {l : List UInt8} (h : Bytes S w (.slice A n c) l) : l.length = n ∧ n ≤ c ∧ c ≤ 9223372036854775807 := by
  obtain ⟨A', c', e, h1, h2, h3⟩ := h
  cases e
  unfold maxLen at h2
  exact ⟨rfl, h1, h2⟩
theorem Bytes.drop_ {S : Nat → Prop} {w : World} {A : Option Addr} {n c : Nat} {l : List UInt8} (h : Bytes S w (.slice A n c) l) {k : Nat} (hk : k ≤ n) {q : Prop} [Decidable q] (hq : q → n ≤ k) :
    Bytes S w (.slice (if q then A else A.map (·.add k)) (n - k) (c - k)) (l.drop k) := by
  obtain ⟨A', c', e, h1, h2, h3⟩ := h
  cases e
  refine ⟨_, c - k, by rw [List.length_drop], by rw [List.length_drop]; omega, by omega, ?_⟩
  rw [List.map_drop]
  exact h3.drop_ k (fun x => by simpa using hq x)

/-- what the shell of a row says of a slice of integers that came in -/
def IsRow (k : IntKind) (w : World) (a : Option Addr) (len cap : Nat) (zs : List Int) : Prop :=
  (a = none ∧ len = 0 ∧ cap = 0 ∧ zs = []) ∨
  ∃ x, a = some x ∧ len ≤ cap ∧ cap ≤ maxLen ∧ zs.length = cap ∧ (∀ i, i < zs.length → w.cell? (x.add i) = some (.int k (zs.getD i 0))) ∧ ∀ n ∈ zs, (Lit.int k n).wf = true

theorem plain_of_cell {w : World} {x : Addr} {v : Value} (h : w.cell? (x.add 0) = some v) : ∃ b off, x = ⟨b, off, none⟩ := by
  obtain ⟨b, off, spot⟩ := x
  have e : (⟨b, off, spot⟩ : Addr).add 0 = ⟨b, off, spot⟩ := by simp [Addr.add]
  rw [e] at h
  cases spot with
  | none => exact ⟨b, off, rfl⟩
  | some s => simp [World.cell?] at h; split at h <;> simp at h

theorem wf_u8 {n : Int} (h : (Lit.int .u8 n).wf = true) : 0 ≤ n ∧ n < 256 := by
  simp [Lit.wf, IntKind.min, IntKind.max, IntKind.bits, IntKind.signed] at h
  omega

theorem wf_u32 {n : Int} (h : (Lit.int .u32 n).wf = true) : 0 ≤ n ∧ n < 4294967296 := by
  simp [Lit.wf, IntKind.min, IntKind.max, IntKind.bits, IntKind.signed] at h
  omega
theorem wf_i64 {n : Int} (h : (Lit.int .i64 n).wf = true) : -9223372036854775808 ≤ n ∧ n ≤ 9223372036854775807 := by
  simp [Lit.wf, IntKind.min, IntKind.max, IntKind.bits, IntKind.signed] at h
  omega

theorem IsRow.bytes {w : World} {a : Option Addr} {len cap : Nat} {zs : List Int} (h : IsRow .u8 w a len cap zs) :
    ∃ l : List UInt8, l.length = len ∧ len ≤ cap ∧ cap ≤ 9223372036854775807 ∧ Bytes (· < w.heap.size) w (.slice a len cap) l := by
  rcases h with ⟨rfl, rfl, rfl, rfl⟩ | ⟨x, rfl, hl, hm, hz, hc, hw⟩
  · exact ⟨[], rfl, by omega, by omega, Bytes.nil_ _ _⟩
  · refine ⟨(zs.take len).map (fun n => UInt8.ofNat n.toNat), by simp; omega, hl, by unfold maxLen at hm; omega, some x, cap, by simp; omega, by simp; omega, hm, ?_⟩
    intro hn
    have hn' : 0 < zs.length := by simp at hn; omega
    obtain ⟨b, off, rfl⟩ := plain_of_cell (hc 0 hn')
    refine ⟨b, off, rfl, block_lt_of_cell (hc 0 hn') , fun j u hu => ?_⟩
    have hj : j < zs.length ∧ j < len := by
      have := (List.getElem?_eq_some_iff.1 hu).1
      simp at this; omega
    have := hc j hj.1
    rw [Addr.add_mid] at this
    rw [this]
    have hm := wf_u8 (hw zs[j] (List.getElem_mem hj.1))
    simp [hj.1, hj.2, bv_def] at hu
    rw [← hu]
    simp [hj.1]
    omega

/-! ### min and max -/
theorem run_min3 {P : Program} (w : World) (at_ : Array TypeId) (ty : TypeId) (a b c : Nat) (n : Nat) (hn : n = min (min a b) c) : (Builtin.min_ at_ ty #[.int .i64 (a : Int), .int .i64 (b : Int), .int .i64 (c : Int)]).run P w = .ok (.int .i64 (n : Int)) w := by
  have e : (n : Int) = if (c : Int) < (if (b : Int) < (a : Int) then (b : Int) else (a : Int)) then (c : Int) else (if (b : Int) < (a : Int) then (b : Int) else (a : Int)) := by
    subst hn
    split <;> split at * <;> omega
  rw [e]
  rfl
theorem run_min2 {P : Program} (w : World) (at_ : Array TypeId) (ty : TypeId) (a b : Int) : (Builtin.min_ at_ ty #[.int .i64 a, .int .i64 b]).run P w = .ok (.int .i64 (min a b)) w := by
  have e : min a b = if b < a then b else a := by split <;> omega
  rw [e]
  rfl
theorem run_max2 {P : Program} (w : World) (at_ : Array TypeId) (ty : TypeId) (a b : Int) : (Builtin.max_ at_ ty #[.int .i64 a, .int .i64 b]).run P w = .ok (.int .i64 (max a b)) w := by
  have e : max a b = if a < b then b else a := by split <;> omega
  rw [e]
  rfl

/-! ### a block of bytes that is known whole -/
def brow (l : List UInt8) : Array Value := (l.map bv).toArray
theorem brow_size (l : List UInt8) : (brow l).size = l.length := by simp [brow]
theorem brow_get (l : List UInt8) (j : Nat) : (brow l)[j]? = (l[j]?).map bv := by simp [brow]
theorem brow_set (l : List UInt8) (j : Nat) (c : UInt8) : (brow l).setIfInBounds j (bv c) = brow (l.set j c) := by
  simp [brow, List.map_set]
theorem madeCells_brow (n : Nat) : madeCells #[.int .u8 0] n = brow (List.replicate n 0) := by
  apply Array.ext_getElem?
  intro i
  rw [brow_get]
  by_cases h : i < n
  · simp [madeCells, h, bv_def, Nat.mod_one]
  · simp [madeCells, h]
def BRow (w : World) (g : Nat) (t : TypeId) (l : List UInt8) : Prop := w.heap[g]? = some (.cells (brow l) t (0, 0))
theorem BRow.lt {w : World} {g : Nat} {t : TypeId} {l : List UInt8} (h : BRow w g t l) : g < w.heap.size := by
  rcases Nat.lt_or_ge g w.heap.size with hlt | hge
  · exact hlt
  · unfold BRow at h; rw [Array.getElem?_eq_none hge] at h; cases h
theorem BRow.at_ {w : World} {g : Nat} {t : TypeId} {l : List UInt8} {j : Nat} (h : BRow w g t l) (hj : j < l.length) : ∃ x, l[j]? = some x ∧ w.cell? ⟨g, j, none⟩ = some (.int .u8 (x.toNat : Int)) := by
  refine ⟨l[j], List.getElem?_eq_getElem hj, ?_⟩
  rw [cell_of_row _ _ _ _ _ _ h, brow_get, List.getElem?_eq_getElem hj]
  rfl
theorem BRow.frozen {w : World} {g : Nat} {t : TypeId} {l : List UInt8} (h : BRow w g t l) (j : Nat) : w.frozen? ⟨g, j, none⟩ = false := frozen_of_row _ _ _ _ _ h
theorem BRow.new (w : World) (t : TypeId) (l : List UInt8) : BRow (w.alloc (.cells (brow l) t)) w.heap.size t l := heap_alloc_new w _
theorem BRow.drew {w : World} {g : Nat} {t : TypeId} {l : List UInt8} (h : BRow w g t l) : BRow w.drew g t l := h
theorem BRow.set_ {w : World} {g : Nat} {t : TypeId} {l : List UInt8} (h : BRow w g t l) (j : Nat) (c : UInt8) : BRow (w.setCell ⟨g, j, none⟩ (.int .u8 (c.toNat : Int))) g t (l.set j c) := by
  unfold BRow at *
  rw [heap_setCell_same _ _ _ _ _ _ h, ← brow_set]
  rfl
theorem BRow.ext {w w' : World} {g : Nat} {t : TypeId} {l : List UInt8} (h : BRow w g t l) (hb : Below w.heap.size w w') : BRow w' g t l := (hb.block g h.lt).trans h
theorem BRow.keep {S : Nat → Prop} {w w' : World} {g : Nat} {t : TypeId} {l : List UInt8} (h : BRow w g t l) (hk : Keep S w w') (hs : S g) : BRow w' g t l := (hk g h.lt hs).trans h
theorem BRow.bytes {S : Nat → Prop} {w : World} {g : Nat} {t : TypeId} {l : List UInt8} (h : BRow w g t l) {n c : Nat} (hn : n = l.length) (hc : n ≤ c) (hm : c ≤ maxLen) (hS : S g) : Bytes S w (.slice (some ⟨g, 0, none⟩) n c) l := by
  subst hn
  refine ⟨_, c, rfl, hc, hm, fun _ => ⟨g, 0, rfl, hS, fun j u hu => ?_⟩⟩
  rw [cell_of_row _ _ _ _ _ _ h, brow_get]
  simpa using hu
theorem BRow.below {B : Nat} {a w : World} {g j : Nat} {c : Value} (h : Below B a w) (hg : B ≤ g) : Below B a (w.setCell ⟨g, j, none⟩ c) := h.setCell hg _

/-- a whole block is stored over -/
theorem wpList_store_row {P : Program} {ops : Array Oper} {rest : List Oper} {op : Oper} {a : Act} {w : World} {Q : Exit → Act → World → Prop} (hgd : op.guard = none) (ty : TypeId) (x y : Operand) (ho : op.op = .store ty x y)
    (g : Nat) (t : TypeId) (old cells : Array Value) (hx : a.eval x = .pointer (some ⟨g, 0, none⟩)) (hy : a.eval y = .agg cells) (hg : w.heap[g]? = some (.cells old t (0, 0)))
    (hi : (P.info? ty).map (·.size) = some cells.size) (hs : old.size = cells.size) (h1 : cells.all (·.oneCell') = true)
    (h : wpList P ops Q rest (a.put op.dst undef) (w.setRow g cells)) : wpList P ops Q (op :: rest) a w :=
  wpList_plain hgd fun _ hK => by
    unfold Oper.wp execOp
    simp only [ho, hx, hy, Instr.storeAt, Instr.sureAddr, Sem.run_bind, Sem.run_pure, Result.andThen_ok, run_storeVar_row w g t ty old cells hg hi hs h1]
    exact hK _ _ h
theorem wpList_store_new {P : Program} {ops : Array Oper} {rest : List Oper} {op : Oper} {a : Act} {w : World} {Q : Exit → Act → World → Prop} (hgd : op.guard = none) (ty : TypeId) (x y : Operand) (ho : op.op = .store ty x y)
    (t : TypeId) (old cells : Array Value) (hx : a.eval x = .pointer (some ⟨w.heap.size, 0, none⟩)) (hy : a.eval y = .agg cells)
    (hi : (P.info? ty).map (·.size) = some cells.size) (hs : old.size = cells.size) (h1 : cells.all (·.oneCell') = true)
    (h : wpList P ops Q rest (a.put op.dst undef) (w.alloc (.cells cells t))) : wpList P ops Q (op :: rest) a (w.alloc (.cells old t)) := by
  refine wpList_store_row hgd ty x y ho w.heap.size t old cells hx hy (heap_alloc_new w _) hi hs h1 ?_
  rw [World.setRow_alloc_new]
  exact h
theorem Below.setRow {B : Nat} {a w : World} (h : Below B a w) {g : Nat} (hg : B ≤ g) (cs : Array Value) : Below B a (w.setRow g cs) :=
  ⟨h.os, h.tape, h.output, by simpa using h.size, fun k hk => (setRow_other w g k cs (by omega)).trans (h.block k hk)⟩
end Go.Proofs.Ytgjjfjibfleonaa
