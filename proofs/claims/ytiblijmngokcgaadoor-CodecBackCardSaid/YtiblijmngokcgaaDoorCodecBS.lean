import Derived.Test.YtiblijmngokcgaaDoorCodecAS
import Derived.Test.YtiblijmngokcgaaDoorKitS
namespace Go.Proofs.YtiblijmngokcgaaDoor
open Go.RowKit
set_option maxRecDepth 100000
set_option linter.unusedVariables false
abbrev InR (z : Int) : Prop := -9223372036854775808 ≤ z ∧ z ≤ 9223372036854775807
theorem encs_len : ∀ (zs : List Int), (∀ z ∈ zs, InR z) → (encs zs).length ≤ 10 * zs.length
  | [], _ => by simp [encs]
  | z :: zs, h => by
    have h1 := encs_len zs (fun z hz => h z (by simp [hz]))
    have h2 := encI_len (h z (by simp)).1 (h z (by simp)).2
    unfold encs at *
    rw [List.flatMap_cons, List.length_append, List.length_cons]
    omega
theorem encs_append (a b : List Int) : encs (a ++ b) = encs a ++ encs b := by unfold encs; exact List.flatMap_append ..
theorem litZ (w : World) (t : TypeId) (zs : List Int) (cs : Array Value) (n : Nat) (hn : n = zs.length) (h : cs.toList = zs.flatMap encZ) (hle : n ≤ 1000) : Recs encZ (fun b => b = w.heap.size) (w.alloc (.cells cs t)) (.slice (some ⟨w.heap.size, 0, none⟩) n n) zs := by
  subst hn
  refine ⟨_, zs.length, rfl, Nat.le_refl _, by unfold maxLen; omega, fun _ => ⟨w.heap.size, 0, rfl, rfl, fun j u hu => ?_⟩⟩
  rw [cell_of_row _ _ _ _ _ _ (heap_alloc_new w _), Nat.zero_add, ← h] at *
  simpa using hu
theorem Below.of_row {w0 w w' : World} {row : Option Nat} (hb : Below w0.heap.size w0 w) (hg : w.grownBy w' row) (hr : ∀ m, row = some m → w0.heap.size ≤ m) : Below w0.heap.size w0 w' := hb.grown hg hb.size hr
set_option maxHeartbeats 400000 in
theorem put_b (w0 w : World) (row : Option Nat) (v : Value) (l : List UInt8) (hb : Below w0.heap.size w0 w) (hacc : Acc w w0.heap.size row v l) (Au : Option Addr) (nu cu : Nat) (zs : List Int) (hu : Recs encZ (fun b => row ≠ some b) w (.slice Au nu cu) zs) (hz : ∀ z ∈ zs, InR z) (hlen : l.length + 10 * nu ≤ 100000000000) :
    Calls Tryd.prog 26 #[v, .slice Au nu cu] w fun e w' => ∃ v' row', e = .returned v' ∧ Acc w' w0.heap.size row' v' (l ++ encs zs) ∧ Below w0.heap.size w0 w' ∧ w.grownBy w' row := by
  refine (put_any w0.heap.size row v l w hacc hb.size Au nu cu zs hu hz hlen).mono ?_
  rintro e w' ⟨v', row', rfl, hacc', hrow, hg⟩
  exact ⟨v', row', rfl, hacc', Below.of_row hb hg (fun m hm => (hacc.lo m hm).1), hg⟩
theorem Acc.avoid {w : World} {base : Nat} {row : Option Nat} {v : Value} {l : List UInt8} (h : Acc w base row v l) {b : Nat} (hb : b < base ∨ w.heap.size ≤ b) : row ≠ some b := fun e => by
  have := h.lo b e
  omega
structure Ev where
  k0 : Int
  k1 : Int
  k2 : Int
  k3 : Int
  k4 : Int
  k5 : Int
  k6 : Int
deriving DecidableEq, Inhabited
def Ev.l (e : Ev) : List Int := [e.k0, e.k1, e.k2, e.k3, e.k4, e.k5, e.k6]
def encEv (e : Ev) : List Value := [.int .i64 e.k0, .int .i64 e.k1, .int .i64 e.k2, .int .i64 e.k3, .int .i64 e.k4, .int .i64 e.k5, .int .i64 e.k6]
theorem encEv_len (e : Ev) : (encEv e).length = 7 := rfl
def evV (e : Ev) : Value := .agg #[.int .i64 e.k0, .int .i64 e.k1, .int .i64 e.k2, .int .i64 e.k3, .int .i64 e.k4, .int .i64 e.k5, .int .i64 e.k6]
set_option maxHeartbeats 1000000 in
theorem putEvent_b (w0 w : World) (row : Option Nat) (v : Value) (l : List UInt8) (hb : Below w0.heap.size w0 w) (hacc : Acc w w0.heap.size row v l) (e : Ev) (hz : ∀ z ∈ e.l, InR z) (hlen : l.length ≤ 10000000000) :
    Calls Tryd.prog 28 #[v, evV e] w fun r w' => ∃ v' row', r = .returned v' ∧ Acc w' w0.heap.size row' v' (l ++ encs e.l) ∧ Below w0.heap.size w0 w' := by
  obtain ⟨W, hW⟩ : ∃ W, W = (w.alloc (.cells #[.int .i64 e.k0, .int .i64 e.k1, .int .i64 e.k2, .int .i64 e.k3, .int .i64 e.k4, .int .i64 e.k5, .int .i64 e.k6] 42)).alloc (.cells #[.int .i64 e.k0, .int .i64 e.k1, .int .i64 e.k2, .int .i64 e.k3, .int .i64 e.k4, .int .i64 e.k5, .int .i64 e.k6] 3) := ⟨_, rfl⟩
  have haW : Below w.heap.size w W := by rw [hW]; exact ((Below.refl _ _).alloc (Nat.le_refl _) _).alloc (by simp) _
  have hlit : Recs encZ (fun b => row ≠ some b) W (.slice (some ⟨w.heap.size + 1, 0, none⟩) 7 7) e.l := by
    rw [hW]
    have := litZ (w.alloc (.cells #[.int .i64 e.k0, .int .i64 e.k1, .int .i64 e.k2, .int .i64 e.k3, .int .i64 e.k4, .int .i64 e.k5, .int .i64 e.k6] 42)) 3 e.l #[.int .i64 e.k0, .int .i64 e.k1, .int .i64 e.k2, .int .i64 e.k3, .int .i64 e.k4, .int .i64 e.k5, .int .i64 e.k6] 7 rfl rfl (by omega)
    rw [World.size_alloc] at this
    exact this.mono (fun b _ h => hacc.avoid (.inr (by omega)))
  have hput := put_b w0 W row v l (Below.ext hb haW) (hacc.ext haW) _ 7 7 e.l hlit hz (by omega)
  have Hput := Lib.hid hput
  clear hput hlit
  unfold evV
  go_enter Tryd.func28, Tryd.ntmps28
  go_wp2_with fail
  rw [← hW]
  refine Hput.out.mono ?_
  rintro r w2 ⟨v', row', rfl, h2, h3, _⟩
  go_wp2
  go_ret
  exact ⟨v', row', rfl, h2, h3⟩
theorem byt_slice {w : World} {v : Value} {l : List UInt8} {S : Nat → Prop} (h : Bytes S w v l) : ∃ A c, v = .slice A l.length c := by
  obtain ⟨A, c, e, _⟩ := h
  exact ⟨A, c, e⟩
end Go.Proofs.YtiblijmngokcgaaDoor
namespace Go.Proofs.YtiblijmngokcgaaDoor
open Go.RowKit
set_option maxRecDepth 100000
set_option linter.unusedVariables false
theorem clip_acc {w w0 : World} {A : Option Addr} {n c : Nat} {l : List UInt8} {S : Nat → Prop} (base : Nat) (hb : Bytes S w (.slice A n c) l) (hn : n ≤ 10000000000) : Acc w base none (.slice A n n) l := by
  have hl := hb.len.1
  subst hl
  exact .inr ⟨rfl, ⟨A, rfl⟩, (hb.clip (c' := l.length) (Nat.le_refl _) (by unfold maxLen; omega)).mono (fun _ _ _ => trivial)⟩
theorem avoid_none {w : World} {α : Type} {enc : α → List Value} {S : Nat → Prop} {v : Value} {l : List α} (h : Recs enc S w v l) : Recs enc (fun b => (none : Option Nat) ≠ some b) w v l := h.mono (fun _ _ _ => by simp)
theorem avoid_acc {w : World} {base : Nat} {row : Option Nat} {v u : Value} {l : List UInt8} {α : Type} {enc : α → List Value} {zs : List α} (h : Acc w base row v l) (hu : Recs enc (· < base) w u zs) : Recs enc (fun b => row ≠ some b) w u zs := hu.mono (fun b _ hb => h.avoid (.inl hb))
structure PgV where
  num : Int
  A : Option Addr
  n : Nat
  c : Nat
deriving Inhabited
def encPg (x : PgV) : List Value := [.int .i64 x.num, .slice x.A x.n x.c]
theorem encPg_len (x : PgV) : (encPg x).length = 2 := rfl
structure Pg where
  num : Int
  cells : List Int
deriving DecidableEq, Inhabited
def Pg.l (p : Pg) : List Int := [p.num, (p.cells.length : Int)] ++ p.cells
def pgL (ps : List Pg) : List Int := [(ps.length : Int)] ++ ps.flatMap Pg.l
def Pgs (S : Nat → Prop) (w : World) (v : Value) (ps : List Pg) : Prop := ∃ xs, Recs encPg S w v xs ∧ xs.length = ps.length ∧ ∀ (i : Nat) (x : PgV) (p : Pg), xs[i]? = some x → ps[i]? = some p → x.num = p.num ∧ Recs encZ S w (.slice x.A x.n x.c) p.cells
theorem Pgs.ext {S : Nat → Prop} {w w' : World} {v : Value} {ps : List Pg} (h : Pgs S w v ps) (hb : Below w.heap.size w w') : Pgs S w' v ps := by
  obtain ⟨xs, h1, h2, h3⟩ := h
  exact ⟨xs, h1.ext hb, h2, fun i x p hx hp => ⟨(h3 i x p hx hp).1, (h3 i x p hx hp).2.ext hb⟩⟩
theorem Pgs.len {S : Nat → Prop} {w : World} {A : Option Addr} {n c : Nat} {ps : List Pg} (h : Pgs S w (.slice A n c) ps) : ps.length = n ∧ n ≤ c ∧ c ≤ 9223372036854775807 := by
  obtain ⟨xs, h1, h2, h3⟩ := h
  have := h1.len
  omega
theorem Pgs.at_ {S : Nat → Prop} {w : World} {A : Option Addr} {n c k : Nat} {ps : List Pg} (h : Pgs S w (.slice A n c) ps) (hk : k < n) :
    ∃ (b off : Nat) (x : PgV) (p : Pg), A = some ⟨b, off, none⟩ ∧ S b ∧ b < w.heap.size ∧ ps[k]? = some p ∧ x.num = p.num ∧ Recs encZ S w (.slice x.A x.n x.c) p.cells ∧ w.cell? ⟨b, off + k * 2, none⟩ = some (.int .i64 x.num) ∧ w.cell? ⟨b, off + k * 2 + 1, none⟩ = some (.slice x.A x.n x.c) := by
  have hl := h.len
  obtain ⟨xs, h1, h2, h3⟩ := h
  obtain ⟨b, off, x, rfl, hs, hb, hx, hc⟩ := h1.at_ encPg_len (j := k) (by omega) (by omega)
  have hf : ps[k]? = some ps[k] := List.getElem?_eq_getElem (by omega)
  exact ⟨b, off, x, _, rfl, hs, hb, hf, (h3 k x _ hx hf).1, (h3 k x _ hx hf).2, hc 0 _ rfl, hc 1 _ rfl⟩
def PgOk (p : Pg) : Prop := InR p.num ∧ (∀ z ∈ p.cells, InR z) ∧ p.cells.length ≤ 2000000
theorem flat_tk {α β : Type} (f : α → List β) (l : List α) (k : Nat) (x : α) (h : l[k]? = some x) : (l.take (k + 1)).flatMap f = (l.take k).flatMap f ++ f x := by
  rw [List.take_add_one, h, List.flatMap_append]
  simp
set_option maxHeartbeats 2000000 in
theorem putPages_any (A : Option Addr) (n c : Nat) (l : List UInt8) (S : Nat → Prop) (w : World) (hv : Bytes S w (.slice A n c) l) (Ap : Option Addr) (np cp : Nat) (ps : List Pg) (hP : Pgs (· < w.heap.size) w (.slice Ap np cp) ps) (hok : ∀ p ∈ ps, PgOk p) (hlen : n ≤ 1000000) (hnp : np ≤ 400) :
    Calls Tryd.prog 15 #[.slice A n c, .slice Ap np cp] w fun r w' => ∃ v', r = .returned v' ∧ Bytes (fun _ => True) w' v' (l ++ encs (pgL ps)) ∧ Below w.heap.size w w' := by
  have hl := hv.len
  have HL := Lib.hid hl.1
  have hpl := hP.len
  have HPL := Lib.hid hpl.1
  have hpl2 := hpl.2
  have HOK := Lib.hid hok
  clear hok hpl
  have ha : Below w.heap.size w (w.alloc (.cells #[.int .i64 (np : Int)] 3)) := (Below.refl _ _).alloc (Nat.le_refl _) _
  have hlit := avoid_none (litZ w 3 [(np : Int)] #[.int .i64 (np : Int)] 1 rfl rfl (by omega))
  have hput := put_b w (w.alloc (.cells #[.int .i64 (np : Int)] 3)) none (.slice A n n) l ha (clip_acc (w0 := w) w.heap.size (hv.ext ha) (by omega)) _ 1 1 [(np : Int)] hlit (by intro z hz; simp at hz; subst hz; exact ⟨by omega, by omega⟩) (by have := HL.out; omega)
  have Hput := Lib.hid hput
  clear hput hlit
  go_enter Tryd.func15, Tryd.ntmps15
  go_wp2_with fail
  refine (clip_any A n c w hl.2.1 hl.2.2).mono ?_
  rintro e w1 ⟨rfl, rfl⟩
  go_wp2_with fail
  refine (Hput.out).mono ?_
  rintro e w2 ⟨v2, row2, rfl, hacc2, hb2, _⟩
  go_wp2
  have hl2 : (l ++ encs [(np : Int)]).length ≤ n + 10 := by
    have h1 := encs_len [(np : Int)] (by intro z hz; simp at hz; subst hz; exact ⟨by omega, by omega⟩)
    have h2 := HL.out
    rw [List.length_append]
    rw [List.length_singleton] at h1
    omega
  go_loopw [0, 15] (fun v i wr => ∃ (k : Nat) (row : Option Nat), i = .int .i64 k ∧ k ≤ np ∧ Acc wr w1.heap.size row v (l ++ encs ([(np : Int)] ++ (ps.take k).flatMap Pg.l)) ∧ (l ++ encs ([(np : Int)] ++ (ps.take k).flatMap Pg.l)).length ≤ n + 10 + k * 30000000 ∧ Below w1.heap.size w1 wr) (fun _ i _ => np - (intOf i).toNat)
  case atStart => exact ⟨0, row2, rfl, by omega, by simpa using hacc2, by simpa using hl2, hb2⟩
  case round =>
    clear hacc2 hb2 hl2
    obtain ⟨k, row, rfl, hk, hacc, hll, hbr⟩ := hrel
    by_cases hlt : k < np
    · obtain ⟨b, off, x, p, rfl, hbS, hbl, hpk, hnum, hcs, c0, c1⟩ := (hP.ext hbr).at_ hlt
      have hpo := HOK.out p (List.mem_of_getElem? hpk)
      have hfl := flat_tk Pg.l ps k p hpk
      have hcl := hcs.len
      have HCL := Lib.hid hcl.1
      obtain ⟨lk, hlk⟩ : ∃ lk, lk = l ++ encs ([(np : Int)] ++ (ps.take k).flatMap Pg.l) := ⟨_, rfl⟩
      have htgt : l ++ encs ([(np : Int)] ++ (ps.take (k + 1)).flatMap Pg.l) = lk ++ encs [p.num, (p.cells.length : Int)] ++ encs p.cells := by
        rw [hfl, hlk, show Pg.l p = [p.num, (p.cells.length : Int)] ++ p.cells from rfl]
        simp only [encs_append, List.append_assoc]
      have HTG := Lib.hid htgt
      rw [← hlk] at hacc hll
      have hsz := hbr.size
      have Hnum := Lib.hid hnum
      clear hpk hfl htgt hlk hnum
      -- the page's box, and the two numbers
      obtain ⟨W3, hW3⟩ : ∃ W3, W3 = wr.alloc (.cells #[.int .i64 x.num, .slice x.A x.n x.c] 36) := ⟨_, rfl⟩
      have hb3 : Below wr.heap.size wr W3 := by rw [hW3]; exact (Below.refl _ _).alloc (Nat.le_refl _) _
      have r3 : W3.heap[wr.heap.size]? = some (.cells #[.int .i64 x.num, .slice x.A x.n x.c] 36 (0, 0)) := by rw [hW3]; exact heap_alloc_new _ _
      have hs3 : W3.heap.size = wr.heap.size + 1 := by rw [hW3]; simp
      have ha3 : Below W3.heap.size W3 (W3.alloc (.cells #[.int .i64 x.num, .int .i64 (x.n : Int)] 3)) := (Below.refl _ _).alloc (Nat.le_refl _) _
      have ha4 := Below.ext hb3 ha3
      have hlit := (litZ W3 3 [x.num, (x.n : Int)] #[.int .i64 x.num, .int .i64 (x.n : Int)] 2 rfl rfl (by omega)).mono (S' := fun b => row ≠ some b) (fun b _ h => hacc.avoid (.inr (by omega)))
      have hrng : ∀ z ∈ [x.num, (x.n : Int)], InR z := by
        intro z hz
        simp at hz
        rcases hz with rfl | rfl
        · rw [Hnum.out]; exact hpo.1
        · exact ⟨by omega, by omega⟩
      have hput := put_b w1 (W3.alloc (.cells #[.int .i64 x.num, .int .i64 (x.n : Int)] 3)) row _ lk (Below.ext hbr ha4) (hacc.ext ha4) _ 2 2 _ hlit hrng (by omega)
      have Hput2 := Lib.hid hput
      have R3 := Lib.hid r3
      have HlL := encs_len _ hrng
      rw [hs3] at Hput2
      clear hput hlit r3
      go_wp2_with fail
      rw [← hW3]
      refine Hput2.out.mono ?_
      rintro r w5 ⟨v5, row5, rfl, hacc5, hb5, hg5⟩
      have r5 := (hg5.block wr.heap.size (by simp; omega) (fun e => (hacc.avoid (.inr (Nat.le_refl _))) e.symm)).trans ((ha3.block wr.heap.size (by omega)).trans R3.out)
      have q5 : w5.cell? ⟨wr.heap.size, 1, none⟩ = some (.slice x.A x.n x.c) := by rw [cell_of_row _ _ _ _ _ _ r5]; rfl
      have hcs5 : Recs encZ (· < w1.heap.size) w5 (.slice x.A x.n x.c) p.cells := hcs.keep (fun b _ hs => (hb5.block b hs).trans (hbr.block b hs).symm)
      have hput := put_b w1 w5 row5 v5 _ hb5 hacc5 x.A x.n x.c p.cells (avoid_acc hacc5 hcs5) hpo.2.1 (by have := hpo.2.2; have := HCL.out; rw [List.length_append]; simp at HlL; omega)
      have Hput3 := Lib.hid hput
      clear hput
      go_wp2_with fail
      refine Hput3.out.mono ?_
      rintro r w6 ⟨v6, row6, rfl, hacc6, hb6, _⟩
      have hel := encs_len p.cells hpo.2.1
      have hn1 : [x.num, (x.n : Int)] = [p.num, (p.cells.length : Int)] := by rw [Hnum.out, HCL.out]
      rw [hn1, ← HTG.out] at hacc6
      have hln : (l ++ encs ([(np : Int)] ++ (ps.take (k + 1)).flatMap Pg.l)).length ≤ n + 10 + (k + 1) * 30000000 := by
        rw [HTG.out, List.length_append, List.length_append, ← hn1]
        have := hpo.2.2
        simp at HlL
        omega
      go_wp2
      go_roundw
      case rel => exact ⟨k + 1, row6, by go_num, by omega, hacc6, hln, hb6⟩
      case measure => simp [intOf]; omega
    · obtain rfl : k = np := by omega
      rw [List.take_of_length_le (by have := HPL.out; omega)] at hacc
      have hfin : l ++ encs ([(k : Int)] ++ ps.flatMap Pg.l) = l ++ encs (pgL ps) := by unfold pgL; rw [HPL.out]
      rw [hfin] at hacc
      go_wp2
      go_ret
      exact ⟨_, rfl, hacc.bytes, hbr⟩
end Go.Proofs.YtiblijmngokcgaaDoor
namespace Go.Proofs.YtiblijmngokcgaaDoor
open Go.RowKit
set_option maxRecDepth 100000
set_option linter.unusedVariables false
theorem run_ld_mid {P : Program} {w : World} {g o : Nat} {cs : Array Value} {t e : TypeId} {d : TypeDesc} (vs : List Value) (h : w.heap[g]? = some (.cells cs e (0, 0))) (hv : ∀ (j : Nat) v, vs[j]? = some v → cs[o + j]? = some v) (hu : P.underlying t = some d) (hd : d.isRow = true) (hi : (P.info? t).map (·.size) = some vs.length) :
    (loadVar t ⟨g, o, none⟩).run P w = .ok (.agg vs.toArray) w :=
  run_loadVar_mid (P := P) w g o t vs d (fun j v hj => by rw [cell_of_row _ _ _ _ _ _ h]; exact hv j v hj) hu hd hi
structure Dt where
  proc : Int
  index : Int
  ev : Ev
deriving DecidableEq, Inhabited
def Dt.l (d : Dt) : List Int := [d.proc, d.index] ++ d.ev.l
def dtV (d : Dt) : Value := .agg #[.int .i64 d.proc, .int .i64 d.index, .int .i64 d.ev.k0, .int .i64 d.ev.k1, .int .i64 d.ev.k2, .int .i64 d.ev.k3, .int .i64 d.ev.k4, .int .i64 d.ev.k5, .int .i64 d.ev.k6]
theorem ag_int : ∀ w : World, (isAgg 3).run Tryd.prog w = .ok false w := fun w => by simp [isAgg, run_underlying Tryd.underlying3]
theorem ag_ints : ∀ w : World, (isAgg 26).run Tryd.prog w = .ok false w := fun w => by simp [isAgg, run_underlying Tryd.underlying26]
theorem row_cell {w : World} {g : Nat} {cs : Array Value} {e : TypeId} (h : w.heap[g]? = some (.cells cs e (0, 0))) (o : Nat) (v : Value) (hv : cs[o]? = some v) : w.cell? ⟨g, o, none⟩ = some v := by rw [cell_of_row _ _ _ _ _ _ h]; exact hv
theorem get7 {a0 a1 a2 a3 a4 a5 a6 x y : Value} : ∀ (j : Nat) v, [a0, a1, a2, a3, a4, a5, a6][j]? = some v → #[x, y, a0, a1, a2, a3, a4, a5, a6][2 + j]? = some v
  | 0, _, h => h | 1, _, h => h | 2, _, h => h | 3, _, h => h | 4, _, h => h | 5, _, h => h | 6, _, h => h
  | j + 7, v, h => by simp at h
set_option maxHeartbeats 2000000 in
theorem putDet_any (A : Option Addr) (n c : Nat) (l : List UInt8) (S : Nat → Prop) (w : World) (hv : Bytes S w (.slice A n c) l) (d : Dt) (hz : ∀ z ∈ d.l, InR z) (hlen : n ≤ 1000000000) :
    Calls Tryd.prog 18 #[.slice A n c, dtV d] w fun r w' => ∃ v', r = .returned v' ∧ Bytes (fun _ => True) w' v' (l ++ encs d.l) ∧ Below w.heap.size w w' := by
  have hl := hv.len
  have HL := Lib.hid hl.1
  obtain ⟨W, hW⟩ : ∃ W, W = w.alloc (.cells #[.int .i64 d.proc, .int .i64 d.index, .int .i64 d.ev.k0, .int .i64 d.ev.k1, .int .i64 d.ev.k2, .int .i64 d.ev.k3, .int .i64 d.ev.k4, .int .i64 d.ev.k5, .int .i64 d.ev.k6] 45) := ⟨_, rfl⟩
  have haW : Below w.heap.size w W := by rw [hW]; exact (Below.refl _ _).alloc (Nat.le_refl _) _
  have rW : W.heap[w.heap.size]? = some (.cells #[.int .i64 d.proc, .int .i64 d.index, .int .i64 d.ev.k0, .int .i64 d.ev.k1, .int .i64 d.ev.k2, .int .i64 d.ev.k3, .int .i64 d.ev.k4, .int .i64 d.ev.k5, .int .i64 d.ev.k6] 45 (0, 0)) := by rw [hW]; exact heap_alloc_new _ _
  have hsW : w.heap.size < W.heap.size := (Array.getElem?_eq_some_iff.1 rW).1
  have RW := Lib.hid rW
  have hz2 : ∀ z ∈ [d.proc, d.index], InR z := fun z hz' => hz z (by unfold Dt.l; simp at hz' ⊢; rcases hz' with h | h <;> simp [h])
  have hze : ∀ z ∈ d.ev.l, InR z := fun z hz' => hz z (by unfold Dt.l; simp [hz'])
  have ha2 : Below W.heap.size W (W.alloc (.cells #[.int .i64 d.proc, .int .i64 d.index] 3)).drew := ((Below.refl _ _).alloc (Nat.le_refl _) _).drew
  have hlit := avoid_none (litZ W 3 [d.proc, d.index] #[.int .i64 d.proc, .int .i64 d.index] 2 rfl rfl (by omega)).drew
  have hput := put_b W (W.alloc (.cells #[.int .i64 d.proc, .int .i64 d.index] 3)).drew none (.slice A n n) l ha2 (clip_acc (w0 := W) W.heap.size (hv.ext (Below.ext haW ha2)) (by omega)) _ 2 2 [d.proc, d.index] hlit hz2 (by have := HL.out; omega)
  have Hput := Lib.hid hput
  have hl2 := encs_len [d.proc, d.index] hz2
  have hfin : l ++ encs d.l = (l ++ encs [d.proc, d.index]) ++ encs d.ev.l := by unfold Dt.l; rw [encs_append, List.append_assoc]
  rw [hfin]
  clear rW hput hlit hfin hz
  unfold dtV
  go_enter Tryd.func18, Tryd.ntmps18
  go_wp2_with fail
  rw [← hW]
  clear hW
  refine wp_region_two (Below W.heap.size W) [0, 1, 2, 3, 4, 5, 6, 7, 8, 9, 10, 11] [0, 2, 3, 4, 5, 6, 1, 7, 8, 9, 10, 11] 1 6 (by kernel_rfl) (by kernel_rfl) (by kernel_rfl) (by kernel_rfl) (by decide) (by decide) (by decide) (by decide) ((Below.refl _ _).drew) ?_ ?_
  all_goals simp only [opsOf, List.filterMap_cons, List.filterMap_nil, List.getElem?_cons_zero, List.getElem?_cons_succ]
  · repeat (first | (refine lexL_q0 rfl ?_; go_big_quiet_step (fail); refine wpQuiet_nil ?_) | (refine lexL_skip0 rfl rfl ?_; simp only [Act.put, List.setIfInBounds_toArray, List.set_cons_succ, List.set_cons_zero]))
    refine lexL_e rfl ?_
    go_wp2_with fail
    refine (clip_any A n c W.drew hl.2.1 hl.2.2).mono ?_
    rintro r w1 ⟨rfl, rfl⟩
    go_wp2_with fail
    refine lexL_go ((Below.refl _ _).drew) ?_
    repeat (first | (refine lexL_q0 rfl ?_; go_big_quiet_step (fail); refine wpQuiet_nil ?_) | (refine lexL_skip0 rfl rfl ?_; simp only [Act.put, List.setIfInBounds_toArray, List.set_cons_succ, List.set_cons_zero]))
    refine lexL_ld (⟨w.heap.size, 0, none⟩) (.int .i64 d.proc) rfl rfl rfl (fun w' hS => run_ld1 (ag_int _) (row_cell ((hS.block _ hsW).trans RW.out) 0 _ rfl)) ?_
    simp only [Act.put, List.setIfInBounds_toArray, List.set_cons_succ, List.set_cons_zero]
    repeat (first | (refine lexL_q0 rfl ?_; go_big_quiet_step (fail); refine wpQuiet_nil ?_) | (refine lexL_skip0 rfl rfl ?_; simp only [Act.put, List.setIfInBounds_toArray, List.set_cons_succ, List.set_cons_zero]))
    refine lexL_ld (⟨w.heap.size, 1, none⟩) (.int .i64 d.index) rfl rfl rfl (fun w' hS => run_ld1 (ag_int _) (row_cell ((hS.block _ hsW).trans RW.out) 1 _ rfl)) ?_
    simp only [Act.put, List.setIfInBounds_toArray, List.set_cons_succ, List.set_cons_zero]
    repeat (first | (refine lexL_q0 rfl ?_; go_big_quiet_step (fail); refine wpQuiet_nil ?_) | (refine lexL_skip0 rfl rfl ?_; simp only [Act.put, List.setIfInBounds_toArray, List.set_cons_succ, List.set_cons_zero]))
    refine lexL_e rfl ?_
    go_wp2_with fail
    refine lexL_go ha2 ?_
    repeat (first | (refine lexL_q0 rfl ?_; go_big_quiet_step (fail); refine wpQuiet_nil ?_) | (refine lexL_skip0 rfl rfl ?_; simp only [Act.put, List.setIfInBounds_toArray, List.set_cons_succ, List.set_cons_zero]))
    refine lexL_e rfl ?_
    go_wp2_with fail
    refine Hput.out.mono ?_
    rintro r w2 ⟨v2, row2, rfl, hacc2, hb2, _⟩
    go_wp2_with fail
    refine lexL_go (hb2) ?_
    repeat (first | (refine lexL_q0 rfl ?_; go_big_quiet_step (fail); refine wpQuiet_nil ?_) | (refine lexL_skip0 rfl rfl ?_; simp only [Act.put, List.setIfInBounds_toArray, List.set_cons_succ, List.set_cons_zero]))
    refine lexL_ld (⟨w.heap.size, 2, none⟩) (.agg #[.int .i64 d.ev.k0, .int .i64 d.ev.k1, .int .i64 d.ev.k2, .int .i64 d.ev.k3, .int .i64 d.ev.k4, .int .i64 d.ev.k5, .int .i64 d.ev.k6]) rfl rfl rfl (fun w' hS => run_ld_mid (o := 2) [.int .i64 d.ev.k0, .int .i64 d.ev.k1, .int .i64 d.ev.k2, .int .i64 d.ev.k3, .int .i64 d.ev.k4, .int .i64 d.ev.k5, .int .i64 d.ev.k6] ((hS.block _ hsW).trans RW.out) get7 Tryd.underlying42 rfl (by kernel_rfl)) ?_
    simp only [Act.put, List.setIfInBounds_toArray, List.set_cons_succ, List.set_cons_zero]
    repeat (first | (refine lexL_q0 rfl ?_; go_big_quiet_step (fail); refine wpQuiet_nil ?_) | (refine lexL_skip0 rfl rfl ?_; simp only [Act.put, List.setIfInBounds_toArray, List.set_cons_succ, List.set_cons_zero]))
    refine lexL_e rfl ?_
    go_wp2_with fail
    have hpe := putEvent_b W w2 row2 v2 _ hb2 hacc2 d.ev hze (by rw [List.length_append]; have := HL.out; simp at hl2; omega)
    unfold evV at hpe
    refine hpe.mono ?_
    rintro r w3 ⟨v3, row3, rfl, hacc3, hb3⟩
    go_wp2_with fail
    refine lexL_go (hb3) ?_
    repeat (first | (refine lexL_q0 rfl ?_; go_big_quiet_step (fail); refine wpQuiet_nil ?_) | (refine lexL_skip0 rfl rfl ?_; simp only [Act.put, List.setIfInBounds_toArray, List.set_cons_succ, List.set_cons_zero]))
    refine lexL_nil ?_
    go_wp2_with fail
    go_wp2
    go_ret
    exact ⟨v3, rfl, hacc3.bytes, Below.ext haW hb3⟩
  · repeat (first | (refine lexL_q0 rfl ?_; go_big_quiet_step (fail); refine wpQuiet_nil ?_) | (refine lexL_skip0 rfl rfl ?_; simp only [Act.put, List.setIfInBounds_toArray, List.set_cons_succ, List.set_cons_zero]))
    refine lexL_ld (⟨w.heap.size, 0, none⟩) (.int .i64 d.proc) rfl rfl rfl (fun w' hS => run_ld1 (ag_int _) (row_cell ((hS.block _ hsW).trans RW.out) 0 _ rfl)) ?_
    simp only [Act.put, List.setIfInBounds_toArray, List.set_cons_succ, List.set_cons_zero]
    repeat (first | (refine lexL_q0 rfl ?_; go_big_quiet_step (fail); refine wpQuiet_nil ?_) | (refine lexL_skip0 rfl rfl ?_; simp only [Act.put, List.setIfInBounds_toArray, List.set_cons_succ, List.set_cons_zero]))
    refine lexL_ld (⟨w.heap.size, 1, none⟩) (.int .i64 d.index) rfl rfl rfl (fun w' hS => run_ld1 (ag_int _) (row_cell ((hS.block _ hsW).trans RW.out) 1 _ rfl)) ?_
    simp only [Act.put, List.setIfInBounds_toArray, List.set_cons_succ, List.set_cons_zero]
    repeat (first | (refine lexL_q0 rfl ?_; go_big_quiet_step (fail); refine wpQuiet_nil ?_) | (refine lexL_skip0 rfl rfl ?_; simp only [Act.put, List.setIfInBounds_toArray, List.set_cons_succ, List.set_cons_zero]))
    refine lexL_e rfl ?_
    go_wp2_with fail
    refine lexL_go ha2 ?_
    repeat (first | (refine lexL_q0 rfl ?_; go_big_quiet_step (fail); refine wpQuiet_nil ?_) | (refine lexL_skip0 rfl rfl ?_; simp only [Act.put, List.setIfInBounds_toArray, List.set_cons_succ, List.set_cons_zero]))
    refine lexL_e rfl ?_
    go_wp2_with fail
    refine (clip_any A n c (W.alloc (.cells #[.int .i64 d.proc, .int .i64 d.index] 3)).drew hl.2.1 hl.2.2).mono ?_
    rintro r w1 ⟨rfl, rfl⟩
    go_wp2_with fail
    refine lexL_go (ha2) ?_
    repeat (first | (refine lexL_q0 rfl ?_; go_big_quiet_step (fail); refine wpQuiet_nil ?_) | (refine lexL_skip0 rfl rfl ?_; simp only [Act.put, List.setIfInBounds_toArray, List.set_cons_succ, List.set_cons_zero]))
    refine lexL_e rfl ?_
    go_wp2_with fail
    refine Hput.out.mono ?_
    rintro r w2 ⟨v2, row2, rfl, hacc2, hb2, _⟩
    go_wp2_with fail
    refine lexL_go (hb2) ?_
    repeat (first | (refine lexL_q0 rfl ?_; go_big_quiet_step (fail); refine wpQuiet_nil ?_) | (refine lexL_skip0 rfl rfl ?_; simp only [Act.put, List.setIfInBounds_toArray, List.set_cons_succ, List.set_cons_zero]))
    refine lexL_ld (⟨w.heap.size, 2, none⟩) (.agg #[.int .i64 d.ev.k0, .int .i64 d.ev.k1, .int .i64 d.ev.k2, .int .i64 d.ev.k3, .int .i64 d.ev.k4, .int .i64 d.ev.k5, .int .i64 d.ev.k6]) rfl rfl rfl (fun w' hS => run_ld_mid (o := 2) [.int .i64 d.ev.k0, .int .i64 d.ev.k1, .int .i64 d.ev.k2, .int .i64 d.ev.k3, .int .i64 d.ev.k4, .int .i64 d.ev.k5, .int .i64 d.ev.k6] ((hS.block _ hsW).trans RW.out) get7 Tryd.underlying42 rfl (by kernel_rfl)) ?_
    simp only [Act.put, List.setIfInBounds_toArray, List.set_cons_succ, List.set_cons_zero]
    repeat (first | (refine lexL_q0 rfl ?_; go_big_quiet_step (fail); refine wpQuiet_nil ?_) | (refine lexL_skip0 rfl rfl ?_; simp only [Act.put, List.setIfInBounds_toArray, List.set_cons_succ, List.set_cons_zero]))
    refine lexL_e rfl ?_
    go_wp2_with fail
    have hpe := putEvent_b W w2 row2 v2 _ hb2 hacc2 d.ev hze (by rw [List.length_append]; have := HL.out; simp at hl2; omega)
    unfold evV at hpe
    refine hpe.mono ?_
    rintro r w3 ⟨v3, row3, rfl, hacc3, hb3⟩
    go_wp2_with fail
    refine lexL_go (hb3) ?_
    repeat (first | (refine lexL_q0 rfl ?_; go_big_quiet_step (fail); refine wpQuiet_nil ?_) | (refine lexL_skip0 rfl rfl ?_; simp only [Act.put, List.setIfInBounds_toArray, List.set_cons_succ, List.set_cons_zero]))
    refine lexL_nil ?_
    go_wp2_with fail
    go_wp2
    go_ret
    exact ⟨v3, rfl, hacc3.bytes, Below.ext haW hb3⟩
end Go.Proofs.YtiblijmngokcgaaDoor
namespace Go.Proofs.YtiblijmngokcgaaDoor
open Go.RowKit
set_option maxRecDepth 100000
set_option linter.unusedVariables false
structure Snd where
  a : Int
  b : Int
  c : Int
  d : Int
deriving DecidableEq, Inhabited
def Snd.l (x : Snd) : List Int := [x.a, x.b, x.c, x.d]
def encSn (x : Snd) : List Value := [.int .i64 x.a, .int .i64 x.b, .int .i64 x.c, .int .i64 x.d]
theorem encSn_len (x : Snd) : (encSn x).length = 4 := rfl
structure Ou where
  a : Int
  b : Int
deriving DecidableEq, Inhabited
def Ou.l (x : Ou) : List Int := [x.a, x.b]
def encOu (x : Ou) : List Value := [.int .i64 x.a, .int .i64 x.b]
theorem encOu_len (x : Ou) : (encOu x).length = 2 := rfl
structure Stt where
  cells : List Int
  evs : List Ev
  sent : List Snd
  outs : List Ou
deriving DecidableEq, Inhabited
def Stt.l (s : Stt) : List Int := [(s.cells.length : Int)] ++ s.cells ++ [(s.evs.length : Int)] ++ s.evs.flatMap Ev.l ++ [(s.sent.length : Int)] ++ s.sent.flatMap Snd.l ++ [(s.outs.length : Int)] ++ s.outs.flatMap Ou.l
structure SttOk (s : Stt) : Prop where
  cells : ∀ z ∈ s.cells, InR z
  evs : ∀ e ∈ s.evs, ∀ z ∈ e.l, InR z
  sent : ∀ e ∈ s.sent, ∀ z ∈ e.l, InR z
  outs : ∀ e ∈ s.outs, ∀ z ∈ e.l, InR z
  small : s.cells.length ≤ 2000000
theorem wp_meet {P : Program} {code : Code} {Q : Exit → Act → World → Prop} {a : Act} {w : World} (F : Value → Option Nat → World → Prop) (mk : Value → Act)
    (h1 : code.wp P (fun e a' w' => e = .normal ∧ ∃ x row, F x row w' ∧ a' = mk x) a w) (h2 : ∀ x row w', F x row w' → Q .normal (mk x) w') : code.wp P Q a w :=
  Code.wp_mono (fun e a' w' ⟨he, x, row, hF, ha⟩ => by subst he ha; exact h2 x row w' hF) h1
theorem len1 (z : Nat) (hz : z ≤ 1000000000) : ∀ x ∈ [(z : Int)], InR x := by
  intro x hx
  simp at hx
  subst hx
  exact ⟨by omega, by omega⟩
set_option maxHeartbeats 8000000 in
theorem putState_any (A : Option Addr) (n c : Nat) (l : List UInt8) (S : Nat → Prop) (w : World) (hv : Bytes S w (.slice A n c) l) (s : Stt) (Ac Ae As Ao : Option Addr) (nc cc ne ce ns cs no co : Nat) (hC : Recs encZ (· < w.heap.size) w (.slice Ac nc cc) s.cells) (hE : Recs encEv (· < w.heap.size) w (.slice Ae ne ce) s.evs) (hS : Recs encSn (· < w.heap.size) w (.slice As ns cs) s.sent) (hO : Recs encOu (· < w.heap.size) w (.slice Ao no co) s.outs) (hok : SttOk s) (hlen : n ≤ 1000000) (hne : ne ≤ 400) (hns : ns ≤ 400) (hno : no ≤ 400) :
    Calls Tryd.prog 11 #[.slice A n c, .agg #[.slice Ac nc cc, .slice Ae ne ce, .slice As ns cs, .slice Ao no co]] w fun r w' => ∃ v', r = .returned v' ∧ Bytes (fun _ => True) w' v' (l ++ encs s.l) ∧ Below w.heap.size w w' := by
  have hl := hv.len
  have HL := Lib.hid hl.1
  have HC := Lib.hid hC.len.1
  have HE := Lib.hid hE.len.1
  have HS := Lib.hid hS.len.1
  have HO := Lib.hid hO.len.1
  have hC2 := hC.len.2
  have hE2 := hE.len.2
  have hS2 := hS.len.2
  have hO2 := hO.len.2
  have HOK := Lib.hid hok
  have hsm : nc ≤ 2000000 := by have := hok.small; have := HC.out; omega
  clear hok
  obtain ⟨W, hW⟩ : ∃ W, W = w.alloc (.cells #[.slice Ac nc cc, .slice Ae ne ce, .slice As ns cs, .slice Ao no co] 31) := ⟨_, rfl⟩
  have haW : Below w.heap.size w W := by rw [hW]; exact (Below.refl _ _).alloc (Nat.le_refl _) _
  have rW : W.heap[w.heap.size]? = some (.cells #[.slice Ac nc cc, .slice Ae ne ce, .slice As ns cs, .slice Ao no co] 31 (0, 0)) := by rw [hW]; exact heap_alloc_new _ _
  have hsW : w.heap.size < W.heap.size := (Array.getElem?_eq_some_iff.1 rW).1
  have RW := Lib.hid rW
  have hCW := (hC.ext haW).mono (S' := (· < W.heap.size)) (fun b _ h => by omega)
  have hEW := (hE.ext haW).mono (S' := (· < W.heap.size)) (fun b _ h => by omega)
  have hSW := (hS.ext haW).mono (S' := (· < W.heap.size)) (fun b _ h => by omega)
  have hOW := (hO.ext haW).mono (S' := (· < W.heap.size)) (fun b _ h => by omega)
  have ha2 : Below W.heap.size W (W.alloc (.cells #[.int .i64 (nc : Int)] 3)).drew := ((Below.refl _ _).alloc (Nat.le_refl _) _).drew
  have hlit := avoid_none (litZ W 3 [(nc : Int)] #[.int .i64 (nc : Int)] 1 rfl rfl (by omega)).drew
  have hput := put_b W (W.alloc (.cells #[.int .i64 (nc : Int)] 3)).drew none (.slice A n n) l ha2 (clip_acc (w0 := W) W.heap.size (hv.ext (Below.ext haW ha2)) (by omega)) _ 1 1 [(nc : Int)] hlit (len1 nc (by omega)) (by have := HL.out; omega)
  have Hput := Lib.hid hput
  clear rW hput hlit hC hE hS hO
  go_enter Tryd.func11, Tryd.ntmps11
  go_wp2_with fail
  rw [← hW]
  clear hW
  apply wp_meet (fun v row w' => Acc w' W.heap.size row v (l ++ encs [(nc : Int)]) ∧ Below W.heap.size W w')
  · refine wp_region_two (Below W.heap.size W) [0, 1, 2, 3, 4, 5, 6, 7] [0, 2, 3, 4, 5, 1, 6, 7] 1 5 (by kernel_rfl) (by kernel_rfl) (by kernel_rfl) (by kernel_rfl) (by decide) (by decide) (by decide) (by decide) ((Below.refl _ _).drew) ?_ ?_
    all_goals simp only [opsOf, List.filterMap_cons, List.filterMap_nil, List.getElem?_cons_zero, List.getElem?_cons_succ]
    · repeat (first | (refine lexL_q0 rfl ?_; go_big_quiet_step (fail); refine wpQuiet_nil ?_) | (refine lexL_skip0 rfl rfl ?_; simp only [Act.put, List.setIfInBounds_toArray, List.set_cons_succ, List.set_cons_zero]))
      refine lexL_e rfl ?_
      go_wp2_with fail
      refine (clip_any A n c W.drew hl.2.1 hl.2.2).mono ?_
      rintro r w1 ⟨rfl, rfl⟩
      go_wp2_with fail
      refine lexL_go ((Below.refl _ _).drew) ?_
      repeat (first | (refine lexL_q0 rfl ?_; go_big_quiet_step (fail); refine wpQuiet_nil ?_) | (refine lexL_skip0 rfl rfl ?_; simp only [Act.put, List.setIfInBounds_toArray, List.set_cons_succ, List.set_cons_zero]))
      refine lexL_ld (⟨w.heap.size, 0, none⟩) (.slice Ac nc cc) rfl rfl rfl (fun w' hS => run_ld1 (ag_ints _) (row_cell ((hS.block _ hsW).trans RW.out) 0 _ rfl)) ?_
      simp only [Act.put, List.setIfInBounds_toArray, List.set_cons_succ, List.set_cons_zero]
      repeat (first | (refine lexL_q0 rfl ?_; go_big_quiet_step (fail); refine wpQuiet_nil ?_) | (refine lexL_skip0 rfl rfl ?_; simp only [Act.put, List.setIfInBounds_toArray, List.set_cons_succ, List.set_cons_zero]))
      refine lexL_e rfl ?_
      go_wp2_with fail
      refine lexL_go ha2 ?_
      repeat (first | (refine lexL_q0 rfl ?_; go_big_quiet_step (fail); refine wpQuiet_nil ?_) | (refine lexL_skip0 rfl rfl ?_; simp only [Act.put, List.setIfInBounds_toArray, List.set_cons_succ, List.set_cons_zero]))
      refine lexL_e rfl ?_
      go_wp2_with fail
      refine Hput.out.mono ?_
      rintro r w2 ⟨v2, row2, rfl, hacc2, hb2, _⟩
      go_wp2_with fail
      refine lexL_go (hb2) ?_
      repeat (first | (refine lexL_q0 rfl ?_; go_big_quiet_step (fail); refine wpQuiet_nil ?_) | (refine lexL_skip0 rfl rfl ?_; simp only [Act.put, List.setIfInBounds_toArray, List.set_cons_succ, List.set_cons_zero]))
      refine lexL_nil ?_
      exact ⟨trivial, v2, row2, ⟨hacc2, hb2⟩, rfl⟩
    · repeat (first | (refine lexL_q0 rfl ?_; go_big_quiet_step (fail); refine wpQuiet_nil ?_) | (refine lexL_skip0 rfl rfl ?_; simp only [Act.put, List.setIfInBounds_toArray, List.set_cons_succ, List.set_cons_zero]))
      refine lexL_ld (⟨w.heap.size, 0, none⟩) (.slice Ac nc cc) rfl rfl rfl (fun w' hS => run_ld1 (ag_ints _) (row_cell ((hS.block _ hsW).trans RW.out) 0 _ rfl)) ?_
      simp only [Act.put, List.setIfInBounds_toArray, List.set_cons_succ, List.set_cons_zero]
      repeat (first | (refine lexL_q0 rfl ?_; go_big_quiet_step (fail); refine wpQuiet_nil ?_) | (refine lexL_skip0 rfl rfl ?_; simp only [Act.put, List.setIfInBounds_toArray, List.set_cons_succ, List.set_cons_zero]))
      refine lexL_e rfl ?_
      go_wp2_with fail
      refine lexL_go ha2 ?_
      repeat (first | (refine lexL_q0 rfl ?_; go_big_quiet_step (fail); refine wpQuiet_nil ?_) | (refine lexL_skip0 rfl rfl ?_; simp only [Act.put, List.setIfInBounds_toArray, List.set_cons_succ, List.set_cons_zero]))
      refine lexL_e rfl ?_
      go_wp2_with fail
      refine (clip_any A n c (W.alloc (.cells #[.int .i64 (nc : Int)] 3)).drew hl.2.1 hl.2.2).mono ?_
      rintro r w1 ⟨rfl, rfl⟩
      go_wp2_with fail
      refine lexL_go (ha2) ?_
      repeat (first | (refine lexL_q0 rfl ?_; go_big_quiet_step (fail); refine wpQuiet_nil ?_) | (refine lexL_skip0 rfl rfl ?_; simp only [Act.put, List.setIfInBounds_toArray, List.set_cons_succ, List.set_cons_zero]))
      refine lexL_e rfl ?_
      go_wp2_with fail
      refine Hput.out.mono ?_
      rintro r w2 ⟨v2, row2, rfl, hacc2, hb2, _⟩
      go_wp2_with fail
      refine lexL_go (hb2) ?_
      repeat (first | (refine lexL_q0 rfl ?_; go_big_quiet_step (fail); refine wpQuiet_nil ?_) | (refine lexL_skip0 rfl rfl ?_; simp only [Act.put, List.setIfInBounds_toArray, List.set_cons_succ, List.set_cons_zero]))
      refine lexL_nil ?_
      exact ⟨trivial, v2, row2, ⟨hacc2, hb2⟩, rfl⟩
  intro v2 row2 w2 ⟨hacc2, hb2⟩
  clear Hput ha2
  obtain ⟨l2, hl2⟩ : ∃ l2, l2 = l ++ encs [(nc : Int)] := ⟨_, rfl⟩
  have hL2 : l2.length ≤ n + 10 := by
    have h1 := encs_len _ (len1 nc (by omega))
    have h2 := HL.out
    rw [hl2, List.length_append]
    rw [List.length_singleton] at h1
    omega
  rw [← hl2] at hacc2
  have K2 := Lib.hid hl2
  have q2 : w2.cell? ⟨w.heap.size, 0, none⟩ = some (.slice Ac nc cc) := row_cell ((hb2.block _ hsW).trans RW.out) 0 _ rfl
  have hput := put_b W w2 row2 v2 l2 hb2 hacc2 Ac nc cc s.cells (avoid_acc hacc2 (hCW.ext hb2)) HOK.out.cells (by omega)
  have Hput := Lib.hid hput
  clear hput hl2
  go_wp2_with fail
  refine Hput.out.mono ?_
  rintro r w3 ⟨v3, row3, rfl, hacc3, hb3, _⟩
  obtain ⟨l3, hl3⟩ : ∃ l3, l3 = l2 ++ encs s.cells := ⟨_, rfl⟩
  have hL3 : l3.length ≤ n + 10 + 20000000 := by
    have h1 := encs_len _ HOK.out.cells
    have h2 := HC.out
    rw [hl3, List.length_append]
    omega
  rw [← hl3] at hacc3
  have K3 := Lib.hid hl3
  clear hl3 q2 Hput
  have q3 : w3.cell? ⟨w.heap.size, 1, none⟩ = some (.slice Ae ne ce) := row_cell ((hb3.block _ hsW).trans RW.out) 1 _ rfl
  have ha3 : Below w3.heap.size w3 (w3.alloc (.cells #[.int .i64 (ne : Int)] 3)) := (Below.refl _ _).alloc (Nat.le_refl _) _
  have hlit := (litZ w3 3 [(ne : Int)] #[.int .i64 (ne : Int)] 1 rfl rfl (by omega)).mono (S' := fun b => row3 ≠ some b) (fun b _ h => hacc3.avoid (.inr (by omega)))
  have hput := put_b W _ row3 v3 l3 (Below.ext hb3 ha3) (hacc3.ext ha3) _ 1 1 [(ne : Int)] hlit (len1 ne (by omega)) (by omega)
  have Hput := Lib.hid hput
  clear hput hlit
  go_wp2_with fail
  refine Hput.out.mono ?_
  rintro r w4 ⟨v4, row4, rfl, hacc4, hb4, _⟩
  obtain ⟨l4, hl4⟩ : ∃ l4, l4 = l3 ++ encs [(ne : Int)] := ⟨_, rfl⟩
  have hL4 : l4.length ≤ n + 20000020 := by
    have h1 := encs_len _ (len1 ne (by omega))
    rw [hl4, List.length_append]
    rw [List.length_singleton] at h1
    omega
  rw [← hl4] at hacc4
  have K4 := Lib.hid hl4
  have q4 : w4.cell? ⟨w.heap.size, 1, none⟩ = some (.slice Ae ne ce) := row_cell ((hb4.block _ hsW).trans RW.out) 1 _ rfl
  clear hl4 q3 Hput ha3
  go_wp2
  go_loopw [0, 31] (fun v i wr => ∃ (k : Nat) (row : Option Nat), i = .int .i64 k ∧ k ≤ ne ∧ Acc wr W.heap.size row v (l4 ++ encs ((s.evs.take k).flatMap Ev.l)) ∧ (l4 ++ encs ((s.evs.take k).flatMap Ev.l)).length ≤ n + 20000020 + k * 70 ∧ Below W.heap.size W wr) (fun _ i _ => ne - (intOf i).toNat)
  case atStart => exact ⟨0, row4, rfl, by omega, by simpa [encs] using hacc4, by simpa [encs] using hL4, hb4⟩
  case round =>
    clear hacc4 hb4 q4
    obtain ⟨k, row, rfl, hk, hacc, hll, hbr⟩ := hrel
    by_cases hlt : k < ne
    · obtain ⟨b, off, x, rfl, hbS, hbl, hxk, hc⟩ := (hEW.ext hbr).at_ encEv_len (j := k) (by have := HE.out; omega) (by omega)
      have hxr := HOK.out.evs x (List.mem_of_getElem? hxk)
      have hfl := flat_tk Ev.l s.evs k x hxk
      have c0 := hc 0 _ rfl
      have c1 := hc 1 _ rfl
      have c2 := hc 2 _ rfl
      have c3 := hc 3 _ rfl
      have c4 := hc 4 _ rfl
      have c5 := hc 5 _ rfl
      have c6 := hc 6 _ rfl
      rw [Nat.add_zero] at c0
      obtain ⟨lk, hlk⟩ : ∃ lk, lk = l4 ++ encs ((s.evs.take k).flatMap Ev.l) := ⟨_, rfl⟩
      have htgt : l4 ++ encs ((s.evs.take (k + 1)).flatMap Ev.l) = lk ++ encs x.l := by rw [hfl, hlk, encs_append, List.append_assoc]
      have HTG := Lib.hid htgt
      rw [← hlk] at hacc hll
      have hsz := hbr.size
      clear hxk hfl htgt hlk hc
      obtain ⟨W5, hW5⟩ : ∃ W5, W5 = wr.alloc (.cells #[.int .i64 x.k0, .int .i64 x.k1, .int .i64 x.k2, .int .i64 x.k3, .int .i64 x.k4, .int .i64 x.k5, .int .i64 x.k6] 42) := ⟨_, rfl⟩
      have hb5 : Below wr.heap.size wr W5 := by rw [hW5]; exact (Below.refl _ _).alloc (Nat.le_refl _) _
      have hput := putEvent_b W W5 row _ lk (Below.ext hbr hb5) (hacc.ext hb5) x hxr (by omega)
      unfold evV at hput
      have Hput := Lib.hid hput
      clear hput
      go_wp2_with fail
      rw [← hW5]
      refine Hput.out.mono ?_
      rintro r w6 ⟨v6, row6, rfl, hacc6, hb6⟩
      have hel := encs_len x.l hxr
      rw [← HTG.out] at hacc6
      have hln : (l4 ++ encs ((s.evs.take (k + 1)).flatMap Ev.l)).length ≤ n + 20000020 + (k + 1) * 70 := by
        rw [HTG.out, List.length_append]
        have : x.l.length = 7 := rfl
        omega
      go_wp2
      go_roundw
      case rel => exact ⟨k + 1, row6, by go_num, by omega, hacc6, hln, hb6⟩
      case measure => simp [intOf]; omega
    · obtain rfl : k = ne := by omega
      rw [List.take_of_length_le (by have := HE.out; omega)] at hacc hll
      obtain ⟨l5, hl5⟩ : ∃ l5, l5 = l4 ++ encs (s.evs.flatMap Ev.l) := ⟨_, rfl⟩
      rw [← hl5] at hacc hll
      have K5 := Lib.hid hl5
      have hL5 : l5.length ≤ n + 20028020 := by omega
      clear hl5 hll
      obtain ⟨v5, hv5⟩ : ∃ v5, v5 = u0 := ⟨_, rfl⟩
      obtain ⟨w5, hw5⟩ : ∃ w5, w5 = wr := ⟨_, rfl⟩
      obtain ⟨row5, hr5⟩ : ∃ row5, row5 = row := ⟨_, rfl⟩
      rw [← hr5] at hacc
      clear hr5
      rw [← hw5] at hacc hbr
      rw [← hv5] at hacc
      have hb5 := hbr
      have hacc5 := hacc
      rw [← hw5, ← hv5]
      clear hw5 hv5 hacc hbr
      have q5 : w5.cell? ⟨w.heap.size, 2, none⟩ = some (.slice As ns cs) := row_cell ((hb5.block _ hsW).trans RW.out) 2 _ rfl
      have ha5 : Below w5.heap.size w5 (w5.alloc (.cells #[.int .i64 (ns : Int)] 3)) := (Below.refl _ _).alloc (Nat.le_refl _) _
      have hlit := (litZ w5 3 [(ns : Int)] #[.int .i64 (ns : Int)] 1 rfl rfl (by omega)).mono (S' := fun b => row5 ≠ some b) (fun b _ h => hacc5.avoid (.inr (by omega)))
      have hput := put_b W _ row5 v5 l5 (Below.ext hb5 ha5) (hacc5.ext ha5) _ 1 1 [(ns : Int)] hlit (len1 ns (by omega)) (by omega)
      have Hput := Lib.hid hput
      clear hput hlit
      go_wp2_with fail
      refine Hput.out.mono ?_
      rintro r w6 ⟨v6, row6, rfl, hacc6, hb6, _⟩
      obtain ⟨l6, hl6⟩ : ∃ l6, l6 = l5 ++ encs [(ns : Int)] := ⟨_, rfl⟩
      have hL6 : l6.length ≤ n + 20028030 := by
        have h1 := encs_len _ (len1 ns (by omega))
        rw [hl6, List.length_append]
        rw [List.length_singleton] at h1
        omega
      rw [← hl6] at hacc6
      have K6 := Lib.hid hl6
      have q6 : w6.cell? ⟨w.heap.size, 2, none⟩ = some (.slice As ns cs) := row_cell ((hb6.block _ hsW).trans RW.out) 2 _ rfl
      clear hl6 q5 Hput ha5
      go_wp2
      go_loopw [0, 48] (fun v i wr => ∃ (k : Nat) (row : Option Nat), i = .int .i64 k ∧ k ≤ ns ∧ Acc wr W.heap.size row v (l6 ++ encs ((s.sent.take k).flatMap Snd.l)) ∧ (l6 ++ encs ((s.sent.take k).flatMap Snd.l)).length ≤ n + 20028030 + k * 40 ∧ Below W.heap.size W wr) (fun _ i _ => ns - (intOf i).toNat)
      case atStart => exact ⟨0, row6, rfl, by omega, by simpa [encs] using hacc6, by simpa [encs] using hL6, hb6⟩
      case round =>
        clear hacc6 hb6 q6
        obtain ⟨k, row, rfl, hk, hacc, hll, hbr⟩ := hrel
        by_cases hlt : k < ns
        · obtain ⟨b, off, x, rfl, hbS, hbl, hxk, hc⟩ := (hSW.ext hbr).at_ encSn_len (j := k) (by have := HS.out; omega) (by omega)
          have hxr := HOK.out.sent x (List.mem_of_getElem? hxk)
          have hfl := flat_tk Snd.l s.sent k x hxk
          have c0 := hc 0 _ rfl
          have c1 := hc 1 _ rfl
          have c2 := hc 2 _ rfl
          have c3 := hc 3 _ rfl
          rw [Nat.add_zero] at c0
          obtain ⟨lk, hlk⟩ : ∃ lk, lk = l6 ++ encs ((s.sent.take k).flatMap Snd.l) := ⟨_, rfl⟩
          have htgt : l6 ++ encs ((s.sent.take (k + 1)).flatMap Snd.l) = lk ++ encs x.l := by rw [hfl, hlk, encs_append, List.append_assoc]
          have HTG := Lib.hid htgt
          rw [← hlk] at hacc hll
          have hsz := hbr.size
          clear hxk hfl htgt hlk hc
          obtain ⟨W5, hW5⟩ : ∃ W5, W5 = wr.alloc (.cells #[.int .i64 x.a, .int .i64 x.b, .int .i64 x.c, .int .i64 x.d] 75) := ⟨_, rfl⟩
          have hb5 : Below wr.heap.size wr W5 := by rw [hW5]; exact (Below.refl _ _).alloc (Nat.le_refl _) _
          have hs5 : W5.heap.size = wr.heap.size + 1 := by rw [hW5]; simp
          have ha5 : Below W5.heap.size W5 (W5.alloc (.cells #[.int .i64 x.a, .int .i64 x.b, .int .i64 x.c, .int .i64 x.d] 3)) := (Below.refl _ _).alloc (Nat.le_refl _) _
          have ha6 := Below.ext hb5 ha5
          have hlit := (litZ W5 3 x.l #[.int .i64 x.a, .int .i64 x.b, .int .i64 x.c, .int .i64 x.d] 4 rfl rfl (by omega)).mono (S' := fun b => row ≠ some b) (fun b _ h => hacc.avoid (.inr (by omega)))
          have hput := put_b W _ row _ lk (Below.ext hbr ha6) (hacc.ext ha6) _ 4 4 x.l hlit hxr (by omega)
          rw [hs5] at hput
          have Hput := Lib.hid hput
          clear hput hlit
          go_wp2_with fail
          rw [← hW5]
          refine Hput.out.mono ?_
          rintro r w6 ⟨v6, row6, rfl, hacc6, hb6, _⟩
          have hel := encs_len x.l hxr
          rw [← HTG.out] at hacc6
          have hln : (l6 ++ encs ((s.sent.take (k + 1)).flatMap Snd.l)).length ≤ n + 20028030 + (k + 1) * 40 := by
            rw [HTG.out, List.length_append]
            have : x.l.length = 4 := rfl
            omega
          go_wp2
          go_roundw
          case rel => exact ⟨k + 1, row6, by go_num, by omega, hacc6, hln, hb6⟩
          case measure => simp [intOf]; omega
        · obtain rfl : k = ns := by omega
          rw [List.take_of_length_le (by have := HS.out; omega)] at hacc hll
          obtain ⟨l7, hl7⟩ : ∃ l7, l7 = l6 ++ encs (s.sent.flatMap Snd.l) := ⟨_, rfl⟩
          rw [← hl7] at hacc hll
          have K7 := Lib.hid hl7
          have hL7 : l7.length ≤ n + 20044030 := by omega
          clear hl7 hll
          obtain ⟨v7, hv7⟩ : ∃ v7, v7 = u0 := ⟨_, rfl⟩
          obtain ⟨w7, hw7⟩ : ∃ w7, w7 = wr := ⟨_, rfl⟩
          obtain ⟨row7, hr7⟩ : ∃ row7, row7 = row := ⟨_, rfl⟩
          rw [← hr7] at hacc
          clear hr7
          rw [← hw7] at hacc hbr
          rw [← hv7] at hacc
          have hb7 := hbr
          have hacc7 := hacc
          rw [← hw7, ← hv7]
          clear hw7 hv7 hacc hbr
          have q7 : w7.cell? ⟨w.heap.size, 3, none⟩ = some (.slice Ao no co) := row_cell ((hb7.block _ hsW).trans RW.out) 3 _ rfl
          have ha7 : Below w7.heap.size w7 (w7.alloc (.cells #[.int .i64 (no : Int)] 3)) := (Below.refl _ _).alloc (Nat.le_refl _) _
          have hlit := (litZ w7 3 [(no : Int)] #[.int .i64 (no : Int)] 1 rfl rfl (by omega)).mono (S' := fun b => row7 ≠ some b) (fun b _ h => hacc7.avoid (.inr (by omega)))
          have hput := put_b W _ row7 v7 l7 (Below.ext hb7 ha7) (hacc7.ext ha7) _ 1 1 [(no : Int)] hlit (len1 no (by omega)) (by omega)
          have Hput := Lib.hid hput
          clear hput hlit
          go_wp2_with fail
          refine Hput.out.mono ?_
          rintro r w8 ⟨v8, row8, rfl, hacc8, hb8, _⟩
          obtain ⟨l8, hl8⟩ : ∃ l8, l8 = l7 ++ encs [(no : Int)] := ⟨_, rfl⟩
          have hL8 : l8.length ≤ n + 20044050 := by
            have h1 := encs_len _ (len1 no (by omega))
            rw [hl8, List.length_append]
            rw [List.length_singleton] at h1
            omega
          rw [← hl8] at hacc8
          have K8 := Lib.hid hl8
          have q8 : w8.cell? ⟨w.heap.size, 3, none⟩ = some (.slice Ao no co) := row_cell ((hb8.block _ hsW).trans RW.out) 3 _ rfl
          clear hl8 q7 Hput ha7
          go_wp2
          go_loopw [0, 73] (fun v i wr => ∃ (k : Nat) (row : Option Nat), i = .int .i64 k ∧ k ≤ no ∧ Acc wr W.heap.size row v (l8 ++ encs ((s.outs.take k).flatMap Ou.l)) ∧ (l8 ++ encs ((s.outs.take k).flatMap Ou.l)).length ≤ n + 20044050 + k * 20 ∧ Below W.heap.size W wr) (fun _ i _ => no - (intOf i).toNat)
          case atStart => exact ⟨0, row8, rfl, by omega, by simpa [encs] using hacc8, by simpa [encs] using hL8, hb8⟩
          case round =>
            clear hacc8 hb8 q8
            obtain ⟨k, row, rfl, hk, hacc, hll, hbr⟩ := hrel
            by_cases hlt : k < no
            · obtain ⟨b, off, x, rfl, hbS, hbl, hxk, hc⟩ := (hOW.ext hbr).at_ encOu_len (j := k) (by have := HO.out; omega) (by omega)
              have hxr := HOK.out.outs x (List.mem_of_getElem? hxk)
              have hfl := flat_tk Ou.l s.outs k x hxk
              have c0 := hc 0 _ rfl
              have c1 := hc 1 _ rfl
              rw [Nat.add_zero] at c0
              obtain ⟨lk, hlk⟩ : ∃ lk, lk = l8 ++ encs ((s.outs.take k).flatMap Ou.l) := ⟨_, rfl⟩
              have htgt : l8 ++ encs ((s.outs.take (k + 1)).flatMap Ou.l) = lk ++ encs x.l := by rw [hfl, hlk, encs_append, List.append_assoc]
              have HTG := Lib.hid htgt
              rw [← hlk] at hacc hll
              have hsz := hbr.size
              clear hxk hfl htgt hlk hc
              obtain ⟨W5, hW5⟩ : ∃ W5, W5 = wr.alloc (.cells #[.int .i64 x.a, .int .i64 x.b] 77) := ⟨_, rfl⟩
              have hb5 : Below wr.heap.size wr W5 := by rw [hW5]; exact (Below.refl _ _).alloc (Nat.le_refl _) _
              have hs5 : W5.heap.size = wr.heap.size + 1 := by rw [hW5]; simp
              have ha5 : Below W5.heap.size W5 (W5.alloc (.cells #[.int .i64 x.a, .int .i64 x.b] 3)) := (Below.refl _ _).alloc (Nat.le_refl _) _
              have ha6 := Below.ext hb5 ha5
              have hlit := (litZ W5 3 x.l #[.int .i64 x.a, .int .i64 x.b] 2 rfl rfl (by omega)).mono (S' := fun b => row ≠ some b) (fun b _ h => hacc.avoid (.inr (by omega)))
              have hput := put_b W _ row _ lk (Below.ext hbr ha6) (hacc.ext ha6) _ 2 2 x.l hlit hxr (by omega)
              rw [hs5] at hput
              have Hput := Lib.hid hput
              clear hput hlit
              go_wp2_with fail
              rw [← hW5]
              refine Hput.out.mono ?_
              rintro r w6 ⟨v6, row6, rfl, hacc6, hb6, _⟩
              have hel := encs_len x.l hxr
              rw [← HTG.out] at hacc6
              have hln : (l8 ++ encs ((s.outs.take (k + 1)).flatMap Ou.l)).length ≤ n + 20044050 + (k + 1) * 20 := by
                rw [HTG.out, List.length_append]
                have : x.l.length = 2 := rfl
                omega
              go_wp2
              go_roundw
              case rel => exact ⟨k + 1, row6, by go_num, by omega, hacc6, hln, hb6⟩
              case measure => simp [intOf]; omega
            · obtain rfl : k = no := by omega
              rw [List.take_of_length_le (by have := HO.out; omega)] at hacc hll
              obtain ⟨l9, hl9⟩ : ∃ l9, l9 = l8 ++ encs (s.outs.flatMap Ou.l) := ⟨_, rfl⟩
              rw [← hl9] at hacc hll
              have K9 := Lib.hid hl9
              have hL9 : l9.length ≤ n + 20052050 := by omega
              clear hl9 hll
              obtain ⟨v9, hv9⟩ : ∃ v9, v9 = u0 := ⟨_, rfl⟩
              obtain ⟨w9, hw9⟩ : ∃ w9, w9 = wr := ⟨_, rfl⟩
              obtain ⟨row9, hr9⟩ : ∃ row9, row9 = row := ⟨_, rfl⟩
              rw [← hr9] at hacc
              clear hr9
              rw [← hw9] at hacc hbr
              rw [← hv9] at hacc
              have hb9 := hbr
              have hacc9 := hacc
              rw [← hw9, ← hv9]
              clear hw9 hv9 hacc hbr
              have hfin : l ++ encs s.l = l9 := by
                unfold Stt.l
                rw [K9.out, K8.out, K7.out, K6.out, K5.out, K4.out, K3.out, K2.out, HC.out, HE.out, HS.out, HO.out]
                simp only [encs_append, List.append_assoc]
              go_wp2
              go_ret
              exact ⟨_, rfl, by rw [hfin]; exact hacc9.bytes, Below.ext haW hb9⟩
end Go.Proofs.YtiblijmngokcgaaDoor
namespace Go.Proofs.YtiblijmngokcgaaDoor
open Go.RowKit
set_option maxRecDepth 100000
set_option linter.unusedVariables false
theorem ag_evs : ∀ w : World, (isAgg 27).run Tryd.prog w = .ok false w := fun w => by simp [isAgg, run_underlying Tryd.underlying27]
end Go.Proofs.YtiblijmngokcgaaDoor
namespace Go.Proofs.YtiblijmngokcgaaDoor
open Go.RowKit
set_option maxRecDepth 100000
set_option linter.unusedVariables false
def bnd {α β : Type} (x : Except Nat (α × Nat)) (f : α → Nat → Except Nat (β × Nat)) : Except Nat (β × Nat) := match x with | .ok (a, q) => f a q | .error k => .error k
theorem bnd_ok {α β : Type} {x : Except Nat (α × Nat)} {f : α → Nat → Except Nat (β × Nat)} {a : α} {q : Nat} (h : x = .ok (a, q)) : bnd x f = f a q := by rw [h]; rfl
theorem bnd_er {α β : Type} {x : Except Nat (α × Nat)} {f : α → Nat → Except Nat (β × Nat)} {k : Nat} (h : x = .error k) : bnd x f = .error k := by rw [h]; rfl
def rdEv (L : List UInt8) (p : Nat) : Except Nat (Ev × Nat) := bnd (rdInt L p) fun a0 p1 => bnd (rdInt L p1) fun a1 p2 => bnd (rdInt L p2) fun a2 p3 => bnd (rdInt L p3) fun a3 p4 => bnd (rdInt L p4) fun a4 p5 => bnd (rdInt L p5) fun a5 p6 => bnd (rdInt L p6) fun a6 p7 => .ok (⟨a0, a1, a2, a3, a4, a5, a6⟩, p7)
def rdSn (L : List UInt8) (p : Nat) : Except Nat (Snd × Nat) := bnd (rdInt L p) fun a0 p1 => bnd (rdInt L p1) fun a1 p2 => bnd (rdInt L p2) fun a2 p3 => bnd (rdInt L p3) fun a3 p4 => .ok (⟨a0, a1, a2, a3⟩, p4)
def rdOu (L : List UInt8) (p : Nat) : Except Nat (Ou × Nat) := bnd (rdInt L p) fun a0 p1 => bnd (rdInt L p1) fun a1 p2 => .ok (⟨a0, a1⟩, p2)
def rdDt (L : List UInt8) (p : Nat) : Except Nat (Dt × Nat) := bnd (rdInt L p) fun a p1 => bnd (rdInt L p1) fun b p2 => bnd (rdEv L p2) fun e p3 => .ok (⟨a, b, e⟩, p3)
def rdRep {α : Type} (f : Nat → Except Nat (α × Nat)) : Nat → Nat → Except Nat (List α × Nat)
  | 0, p => .ok ([], p)
  | n + 1, p => bnd (f p) fun a q => bnd (rdRep f n q) fun l q' => .ok (a :: l, q')
def rdList {α : Type} (f : Nat → Except Nat (α × Nat)) (L : List UInt8) (p : Nat) : Except Nat (List α × Nat) :=
  bnd (rdInt L p) fun n q => if n < 0 ∨ (L.length : Int) - (q : Int) < n then .error 9 else rdRep f n.toNat q
def rdPg (L : List UInt8) (p : Nat) : Except Nat (Pg × Nat) := bnd (rdInt L p) fun a p1 => bnd (rdList (rdInt L) L p1) fun l p2 => .ok (⟨a, l⟩, p2)
def rdPgs (L : List UInt8) (p : Nat) : Except Nat (List Pg × Nat) := rdList (rdPg L) L p
def rdSt (L : List UInt8) (p : Nat) : Except Nat (Stt × Nat) := bnd (rdList (rdInt L) L p) fun a p1 => bnd (rdList (rdEv L) L p1) fun b p2 => bnd (rdList (rdSn L) L p2) fun c p3 => bnd (rdList (rdOu L) L p3) fun d p4 => .ok (⟨a, b, c, d⟩, p4)
theorem rdRep_step {α : Type} {f : Nat → Except Nat (α × Nat)} {n q q1 : Nat} {a : α} {acc : List α} (h : f q = .ok (a, q1)) : bnd (rdRep f (n + 1) q) (fun l q' => .ok (acc ++ l, q')) = bnd (rdRep f n q1) (fun l q' => .ok ((acc ++ [a]) ++ l, q')) := by
  rw [rdRep, bnd_ok h]
  cases rdRep f n q1 with
  | ok x => show Except.ok (acc ++ a :: x.1, x.2) = Except.ok (acc ++ [a] ++ x.1, x.2); rw [List.append_assoc]; rfl
  | error k => rfl
theorem rdRep_err {α β : Type} {f : Nat → Except Nat (α × Nat)} {n q k : Nat} {g : List α → Nat → Except Nat (β × Nat)} (h : f q = .error k) : bnd (rdRep f (n + 1) q) g = .error k := by
  rw [rdRep, bnd_er h]
  rfl
theorem rdList_start {α : Type} {f : Nat → Except Nat (α × Nat)} {L : List UInt8} {p q m : Nat} (h : rdInt L p = .ok ((m : Int), q)) (hm : ¬ (L.length : Int) - (q : Int) < (m : Int)) : rdList f L p = bnd (rdRep f m q) (fun l q' => .ok ([] ++ l, q')) := by
  unfold rdList
  rw [bnd_ok h, if_neg (by omega), Int.toNat_natCast]
  cases rdRep f m q with
  | ok x => rfl
  | error k => rfl
theorem rdList_bad {α : Type} {f : Nat → Except Nat (α × Nat)} {L : List UInt8} {p q : Nat} {n : Int} (h : rdInt L p = .ok (n, q)) (hm : n < 0 ∨ (L.length : Int) - (q : Int) < n) : rdList f L p = .error 9 := by
  unfold rdList
  rw [bnd_ok h, if_pos hm]
def snV (x : Snd) : Value := .agg #[.int .i64 x.a, .int .i64 x.b, .int .i64 x.c, .int .i64 x.d]
def ouV (x : Ou) : Value := .agg #[.int .i64 x.a, .int .i64 x.b]
structure RB (B r : Nat) (L : List UInt8) (T : TypeId) (c2 : Array Value) (w : World) (wr : World) (q : Nat) (c3 : Array Value) : Prop where
  rd : Rdr B wr r L q
  lt : r < w.heap.size
  gr : w.grownBy wr (some r)
  b2 : wr.heap[w.heap.size]? = some (.cells c2 T (0, 0))
  b3 : wr.heap[w.heap.size + 1]? = some (.cells c3 T (0, 0))
section
variable {B r : Nat} {L : List UInt8} {T : TypeId} {c2 : Array Value} {w wr w' : World} {q q' : Nat} {c3 : Array Value}
theorem RB.new (h : Rdr B w r L q) : ∃ W, W = (w.alloc (.cells c2 T)).alloc (.cells c3 T) ∧ RB B r L T c2 w W q c3 := by
  have hlt := h.lt
  have hb1 : Below w.heap.size w (w.alloc (.cells c2 T)) := (Below.refl _ w).alloc (Nat.le_refl _) _
  have hb2 : Below (w.alloc (.cells c2 T)).heap.size (w.alloc (.cells c2 T)) ((w.alloc (.cells c2 T)).alloc (.cells c3 T)) := (Below.refl _ _).alloc (Nat.le_refl _) _
  have hb := Below.ext hb1 hb2
  refine ⟨_, rfl, h.ext hb, hlt, ⟨hb.os, hb.tape, hb.output, hb.size, fun i hi _ => hb.block i hi⟩, (hb2.block _ (by simp)).trans (heap_alloc_new _ _), ?_⟩
  have := heap_alloc_new (w.alloc (.cells c2 T)) (.cells c3 T)
  rwa [World.size_alloc] at this
theorem RB.sz (h : RB B r L T c2 w wr q c3) : w.heap.size + 2 ≤ wr.heap.size := (Array.getElem?_eq_some_iff.1 h.b3).1
theorem RB.call (h : RB B r L T c2 w wr q c3) (hR : Rdr B w' r L q') (hg : wr.grownBy w' (some r)) : RB B r L T c2 w w' q' c3 :=
  have hs := h.sz
  have hl := h.lt
  ⟨hR, h.lt, grown_tr h.gr hg, (hg.block _ (by omega) (by simp; omega)).trans h.b2, (hg.block _ (by omega) (by simp; omega)).trans h.b3⟩
theorem RB.set (h : RB B r L T c2 w wr q c3) (o : Nat) (v : Value) : RB B r L T c2 w (wr.setCell ⟨w.heap.size + 1, o, none⟩ v) q (c3.setIfInBounds o v) :=
  have hs := h.sz
  have hl := h.lt
  have hB := h.rd.1
  have hg : wr.grownBy (wr.setCell ⟨w.heap.size + 1, o, none⟩ v) (some (w.heap.size + 1)) := grown_set ⟨rfl, rfl, rfl, Nat.le_refl _, fun _ _ _ => rfl⟩
  ⟨h.rd.grown hg (fun m hm => by cases hm; omega), h.lt, ⟨hg.os.trans h.gr.os, hg.tape.trans h.gr.tape, hg.output.trans h.gr.output, Nat.le_trans h.gr.size hg.size, fun i hi hne => (hg.block i (Nat.lt_of_lt_of_le hi h.gr.size) (by simp; omega)).trans (h.gr.block i hi hne)⟩,
    (hg.block _ (by omega) (by simp)).trans h.b2, heap_setCell_same _ _ o _ _ _ h.b3⟩
theorem RB.end_ (h : RB B r L T c2 w wr q c3) (cs : Array Value) : Rdr B (wr.setRow w.heap.size cs) r L q ∧ w.grownBy (wr.setRow w.heap.size cs) (some r) :=
  have hs := h.sz
  have hl := h.lt
  have hB := h.rd.1
  have hg := grown_setRow wr w.heap.size cs
  ⟨h.rd.grown hg (fun m hm => by cases hm; omega), ⟨hg.os.trans h.gr.os, hg.tape.trans h.gr.tape, hg.output.trans h.gr.output, Nat.le_trans h.gr.size hg.size, fun i hi hne => (hg.block i (Nat.lt_of_lt_of_le hi h.gr.size) (by simp; omega)).trans (h.gr.block i hi hne)⟩⟩
theorem RB.cell (h : RB B r L T c2 w wr q c3) (o : Nat) {v : Value} (hv : c3[o]? = some v) : wr.cell? ⟨w.heap.size + 1, o, none⟩ = some v := by rw [cell_of_row _ _ _ _ _ _ h.b3]; exact hv
theorem RB.frz (h : RB B r L T c2 w wr q c3) (o : Nat) : wr.frozen? ⟨w.heap.size + 1, o, none⟩ = false := frozen_of_row _ _ _ _ _ h.b3
end
end Go.Proofs.YtiblijmngokcgaaDoor
