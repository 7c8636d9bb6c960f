/-
  Joined from texts of ours: XPutE, XPutP, XPutD, XPutS, XPutR, XRd.
-/
import Derived.Test.YtjcfnpmgklliiaaCodecA
import Derived.Test.YtjcfnpmgklliiaaKit
namespace Go.Proofs.Ytjcfnpmgklliiaa
open Go.RowKit
set_option maxRecDepth 100000
set_option linter.unusedVariables false

abbrev InR (z : Int) : Prop := -9223372036854775808 ≤ z ∧ z ≤ 9223372036854775807
theorem encs_len : ∀ (zs : List Int), (∀ z ∈ zs, InR z) → (encs zs).length ≤ 10 * zs.length
  | [], _ => by simp [encs]
  | z :: zs, h => by
    have h1 := encs_len zs (fun z hz => h z (by simp [hz]))
    have h2 := encI_len (h z (by simp)).1 (h z (by simp)).2
    unfold encs at *
    rw [List.flatMap_cons, List.length_append, List.length_cons]
    omega
theorem encs_append (a b : List Int) : encs (a ++ b) = encs a ++ encs b := by unfold encs; exact List.flatMap_append ..
/-- a list that was just made -/
theorem litZ (w : World) (t : TypeId) (zs : List Int) (cs : Array Value) (n : Nat) (hn : n = zs.length) (h : cs.toList = zs.flatMap encZ) (hle : n ≤ 1000) : Recs encZ (fun b => b = w.heap.size) (w.alloc (.cells cs t)) (.slice (some ⟨w.heap.size, 0, none⟩) n n) zs := by
  subst hn
  refine ⟨_, zs.length, rfl, Nat.le_refl _, by unfold maxLen; omega, fun _ => ⟨w.heap.size, 0, rfl, rfl, fun j u hu => ?_⟩⟩
  rw [cell_of_row _ _ _ _ _ _ (heap_alloc_new w _), Nat.zero_add, ← h] at *
  simpa using hu
theorem Below.of_row {w0 w w' : World} {row : Option Nat} (hb : Below w0.heap.size w0 w) (hg : w.grownBy w' row) (hr : ∀ m, row = some m → w0.heap.size ≤ m) : Below w0.heap.size w0 w' := hb.grown hg hb.size hr

set_option maxHeartbeats 400000 in
/-- codec.put, told from a world in which the bytes that are appended to were not yet made -/
theorem put_b (w0 w : World) (row : Option Nat) (v : Value) (l : List UInt8) (hb : Below w0.heap.size w0 w) (hacc : Acc w w0.heap.size row v l) (Au : Option Addr) (nu cu : Nat) (zs : List Int) (hu : Recs encZ (fun b => row ≠ some b) w (.slice Au nu cu) zs) (hz : ∀ z ∈ zs, InR z) (hlen : l.length + 10 * nu ≤ 100000000000) :
    Calls Try.prog 110 #[v, .slice Au nu cu] w fun e w' => ∃ v' row', e = .returned v' ∧ Acc w' w0.heap.size row' v' (l ++ encs zs) ∧ Below w0.heap.size w0 w' ∧ w.grownBy w' row := by
  refine (put_any w0.heap.size row v l w hacc hb.size Au nu cu zs hu hz hlen).mono ?_
  rintro e w' ⟨v', row', rfl, hacc', hrow, hg⟩
  exact ⟨v', row', rfl, hacc', Below.of_row hb hg (fun m hm => (hacc.lo m hm).1), hg⟩
theorem Acc.avoid {w : World} {base : Nat} {row : Option Nat} {v : Value} {l : List UInt8} (h : Acc w base row v l) {b : Nat} (hb : b < base ∨ w.heap.size ≤ b) : row ≠ some b := fun e => by
  have := h.lo b e
  omega

/-- an event: its seven numbers -/
structure Ev where
  k0 : Int
  k1 : Int
  k2 : Int
  k3 : Int
  k4 : Int
  k5 : Int
  k6 : Int
deriving DecidableEq, Inhabited
def Ev.l (e : Ev) : List Int := [e.k0, e.k1, e.k2, e.k3, e.k4, e.k5, e.k6]
def encEv (e : Ev) : List Value := [.int .i64 e.k0, .int .i64 e.k1, .int .i64 e.k2, .int .i64 e.k3, .int .i64 e.k4, .int .i64 e.k5, .int .i64 e.k6]
theorem encEv_len (e : Ev) : (encEv e).length = 7 := rfl
def evV (e : Ev) : Value := .agg #[.int .i64 e.k0, .int .i64 e.k1, .int .i64 e.k2, .int .i64 e.k3, .int .i64 e.k4, .int .i64 e.k5, .int .i64 e.k6]

set_option maxHeartbeats 1000000 in
theorem putEvent_b (w0 w : World) (row : Option Nat) (v : Value) (l : List UInt8) (hb : Below w0.heap.size w0 w) (hacc : Acc w w0.heap.size row v l) (e : Ev) (hz : ∀ z ∈ e.l, InR z) (hlen : l.length ≤ 10000000000) :
    Calls Try.prog 109 #[v, evV e] w fun r w' => ∃ v' row', r = .returned v' ∧ Acc w' w0.heap.size row' v' (l ++ encs e.l) ∧ Below w0.heap.size w0 w' := by
  obtain ⟨W, hW⟩ : ∃ W, W = (w.alloc (.cells #[.int .i64 e.k0, .int .i64 e.k1, .int .i64 e.k2, .int .i64 e.k3, .int .i64 e.k4, .int .i64 e.k5, .int .i64 e.k6] 36)).alloc (.cells #[.int .i64 e.k0, .int .i64 e.k1, .int .i64 e.k2, .int .i64 e.k3, .int .i64 e.k4, .int .i64 e.k5, .int .i64 e.k6] 3) := ⟨_, rfl⟩
  have haW : Below w.heap.size w W := by rw [hW]; exact ((Below.refl _ _).alloc (Nat.le_refl _) _).alloc (by simp) _
  have hlit : Recs encZ (fun b => row ≠ some b) W (.slice (some ⟨w.heap.size + 1, 0, none⟩) 7 7) e.l := by
    rw [hW]
    have := litZ (w.alloc (.cells #[.int .i64 e.k0, .int .i64 e.k1, .int .i64 e.k2, .int .i64 e.k3, .int .i64 e.k4, .int .i64 e.k5, .int .i64 e.k6] 36)) 3 e.l #[.int .i64 e.k0, .int .i64 e.k1, .int .i64 e.k2, .int .i64 e.k3, .int .i64 e.k4, .int .i64 e.k5, .int .i64 e.k6] 7 rfl rfl (by omega)
    rw [World.size_alloc] at this
    exact this.mono (fun b _ h => hacc.avoid (.inr (by omega)))
  have hput := put_b w0 W row v l (Below.ext hb haW) (hacc.ext haW) _ 7 7 e.l hlit hz (by omega)
  have Hput := Lib.hid hput
  clear hput hlit
  unfold evV
  go_enter Try.func109, Try.ntmps109
  go_wp2_with fail
  rw [← hW]
  refine Hput.out.mono ?_
  rintro r w2 ⟨v', row', rfl, h2, h3, _⟩
  go_wp2
  go_ret
  exact ⟨v', row', rfl, h2, h3⟩

theorem refputint_v (v : Value) (z : Int) (l : List UInt8) (S : Nat → Prop) (w : World) (hv : Bytes S w v l) (hn : l.length ≤ 10000000000) (hz : InR z) :
    Calls Try.prog 86 #[v, .int .i64 z] w fun e w' => ∃ v', e = .returned v' ∧ Bytes (fun _ => True) w' v' (l ++ encI z) ∧ Below w.heap.size w w' := by
  obtain ⟨A, c, rfl, h1, h2, h3⟩ := hv
  refine (refputint_any A l.length c z l S w ⟨A, c, rfl, h1, h2, h3⟩ hn hz.1 hz.2).mono ?_
  rintro e w' ⟨A', c', rfl, ho, hb⟩
  exact ⟨_, rfl, ho.bytes.mono (fun _ _ _ => trivial), hb⟩
/-- the document's ints -/
theorem byt_slice {w : World} {v : Value} {l : List UInt8} {S : Nat → Prop} (h : Bytes S w v l) : ∃ A c, v = .slice A l.length c := by
  obtain ⟨A, c, e, _⟩ := h
  exact ⟨A, c, e⟩
set_option maxHeartbeats 1000000 in
theorem refints_any (v : Value) (l : List UInt8) (S : Nat → Prop) (w : World) (hv : Bytes S w v l) (Au : Option Addr) (nu cu : Nat) (zs : List Int) (Su : Nat → Prop) (hu : Recs encZ Su w (.slice Au nu cu) zs) (hz : ∀ z ∈ zs, InR z) (hlen : l.length + 10 * nu ≤ 10000000000) :
    Calls Try.prog 57 #[v, .slice Au nu cu] w fun e w' => ∃ v', e = .returned v' ∧ Bytes (fun _ => True) w' v' (l ++ encs zs) ∧ Below w.heap.size w w' := by
  have hul := hu.len
  have HZ := Lib.hid hz
  have HUL := Lib.hid hul.1
  clear hz
  go_enter Try.func57, Try.ntmps57
  go_wp2
  go_loopw [0, 5] (fun v i wr => ∃ (k : Nat), i = .int .i64 k ∧ k ≤ nu ∧ Bytes (fun _ => True) wr v (l ++ encs (zs.take k)) ∧ (l ++ encs (zs.take k)).length ≤ l.length + 10 * k ∧ Below w.heap.size w wr) (fun _ i _ => nu - (intOf i).toNat)
  case atStart =>
    refine ⟨0, rfl, by omega, ?_, by simp [encs], Below.refl _ _⟩
    simpa [encs] using hv.mono (fun _ _ _ => trivial)
  case round =>
    obtain ⟨k, rfl, hk, hby, hll, hbr⟩ := hrel
    by_cases hlt : k < nu
    · obtain ⟨b, off, z, rfl, _, hbl, hzk, hc⟩ := (hu.ext hbr).at_ encZ_len (j := k) (by have := HUL.out; omega) (by omega)
      have qz := hc 0 _ rfl
      rw [Nat.mul_one, Nat.add_zero] at qz
      have hzr := HZ.out z (List.mem_of_getElem? hzk)
      have htk : zs.take (k + 1) = zs.take k ++ [z] := by rw [List.take_add_one, hzk]; rfl
      have htk' : l ++ encs (zs.take (k + 1)) = (l ++ encs (zs.take k)) ++ encI z := by rw [htk]; simp [encs]
      have HTK := Lib.hid htk'
      have hil := encI_len hzr.1 hzr.2
      generalize l ++ encs (zs.take k) = lk at *
      clear hc htk htk' hzk
      go_wp2_with fail
      refine (refputint_v _ z lk _ wr hby (by omega) hzr).mono ?_
      rintro e w2 ⟨v2, rfl, ho2, hb2⟩
      have hl2 : (l ++ encs (zs.take (k + 1))).length = lk.length + (encI z).length := by rw [HTK.out]; simp
      go_wp2
      go_roundw
      case rel => exact ⟨k + 1, by go_num, by omega, by rw [HTK.out]; exact ho2, by omega, Below.ext hbr hb2⟩
      case measure => simp [intOf]; omega
    · obtain rfl : k = nu := by omega
      rw [List.take_of_length_le (by have := HUL.out; omega)] at hby
      go_wp2
      go_ret
      exact ⟨_, rfl, hby, hbr⟩

set_option maxHeartbeats 1000000 in
theorem refputEvent_any (v : Value) (l : List UInt8) (S : Nat → Prop) (w : World) (hv : Bytes S w v l) (e : Ev) (hz : ∀ z ∈ e.l, InR z) (hlen : l.length ≤ 1000000000) :
    Calls Try.prog 56 #[v, evV e] w fun r w' => ∃ v', r = .returned v' ∧ Bytes (fun _ => True) w' v' (l ++ encs e.l) ∧ Below w.heap.size w w' := by
  obtain ⟨W, hW⟩ : ∃ W, W = (w.alloc (.cells #[.int .i64 e.k0, .int .i64 e.k1, .int .i64 e.k2, .int .i64 e.k3, .int .i64 e.k4, .int .i64 e.k5, .int .i64 e.k6] 36)).alloc (.cells #[.int .i64 e.k0, .int .i64 e.k1, .int .i64 e.k2, .int .i64 e.k3, .int .i64 e.k4, .int .i64 e.k5, .int .i64 e.k6] 3) := ⟨_, rfl⟩
  have haW : Below w.heap.size w W := by rw [hW]; exact ((Below.refl _ _).alloc (Nat.le_refl _) _).alloc (by simp) _
  have hlit := litZ (w.alloc (.cells #[.int .i64 e.k0, .int .i64 e.k1, .int .i64 e.k2, .int .i64 e.k3, .int .i64 e.k4, .int .i64 e.k5, .int .i64 e.k6] 36)) 3 e.l #[.int .i64 e.k0, .int .i64 e.k1, .int .i64 e.k2, .int .i64 e.k3, .int .i64 e.k4, .int .i64 e.k5, .int .i64 e.k6] 7 rfl rfl (by omega)
  rw [World.size_alloc, ← hW] at hlit
  have hput := refints_any v l _ W (hv.ext haW) _ 7 7 e.l _ hlit hz (by omega)
  have Hput := Lib.hid hput
  clear hput hlit
  unfold evV
  go_enter Try.func56, Try.ntmps56
  go_wp2_with fail
  rw [← hW]
  refine Hput.out.mono ?_
  rintro r w2 ⟨v', rfl, h2, h3⟩
  go_wp2
  go_ret
  exact ⟨v', rfl, h2, Below.ext haW h3⟩
end Go.Proofs.Ytjcfnpmgklliiaa

namespace Go.Proofs.Ytjcfnpmgklliiaa
open Go.RowKit
set_option maxRecDepth 100000
set_option linter.unusedVariables false

theorem clip_acc {w w0 : World} {A : Option Addr} {n c : Nat} {l : List UInt8} {S : Nat → Prop} (base : Nat) (hb : Bytes S w (.slice A n c) l) (hn : n ≤ 10000000000) : Acc w base none (.slice A n n) l := by
  have hl := hb.len.1
  subst hl
  exact .inr ⟨rfl, ⟨A, rfl⟩, (hb.clip (c' := l.length) (Nat.le_refl _) (by unfold maxLen; omega)).mono (fun _ _ _ => trivial)⟩
theorem avoid_none {w : World} {α : Type} {enc : α → List Value} {S : Nat → Prop} {v : Value} {l : List α} (h : Recs enc S w v l) : Recs enc (fun b => (none : Option Nat) ≠ some b) w v l := h.mono (fun _ _ _ => by simp)
theorem avoid_acc {w : World} {base : Nat} {row : Option Nat} {v u : Value} {l : List UInt8} {α : Type} {enc : α → List Value} {zs : List α} (h : Acc w base row v l) (hu : Recs enc (· < base) w u zs) : Recs enc (fun b => row ≠ some b) w u zs := hu.mono (fun b _ hb => h.avoid (.inl hb))

structure PgV where
  num : Int
  A : Option Addr
  n : Nat
  c : Nat
deriving Inhabited
def encPg (x : PgV) : List Value := [.int .i64 x.num, .slice x.A x.n x.c]
theorem encPg_len (x : PgV) : (encPg x).length = 2 := rfl
structure Pg where
  num : Int
  cells : List Int
deriving DecidableEq, Inhabited
def Pg.l (p : Pg) : List Int := [p.num, (p.cells.length : Int)] ++ p.cells
def pgL (ps : List Pg) : List Int := [(ps.length : Int)] ++ ps.flatMap Pg.l
/-- pages in memory -/
def Pgs (S : Nat → Prop) (w : World) (v : Value) (ps : List Pg) : Prop := ∃ xs, Recs encPg S w v xs ∧ xs.length = ps.length ∧ ∀ (i : Nat) (x : PgV) (p : Pg), xs[i]? = some x → ps[i]? = some p → x.num = p.num ∧ Recs encZ S w (.slice x.A x.n x.c) p.cells
theorem Pgs.ext {S : Nat → Prop} {w w' : World} {v : Value} {ps : List Pg} (h : Pgs S w v ps) (hb : Below w.heap.size w w') : Pgs S w' v ps := by
  obtain ⟨xs, h1, h2, h3⟩ := h
  exact ⟨xs, h1.ext hb, h2, fun i x p hx hp => ⟨(h3 i x p hx hp).1, (h3 i x p hx hp).2.ext hb⟩⟩
theorem Pgs.len {S : Nat → Prop} {w : World} {A : Option Addr} {n c : Nat} {ps : List Pg} (h : Pgs S w (.slice A n c) ps) : ps.length = n ∧ n ≤ c ∧ c ≤ 9223372036854775807 := by
  obtain ⟨xs, h1, h2, h3⟩ := h
  have := h1.len
  omega
theorem Pgs.at_ {S : Nat → Prop} {w : World} {A : Option Addr} {n c k : Nat} {ps : List Pg} (h : Pgs S w (.slice A n c) ps) (hk : k < n) :
    ∃ (b off : Nat) (x : PgV) (p : Pg), A = some ⟨b, off, none⟩ ∧ S b ∧ b < w.heap.size ∧ ps[k]? = some p ∧ x.num = p.num ∧ Recs encZ S w (.slice x.A x.n x.c) p.cells ∧ w.cell? ⟨b, off + k * 2, none⟩ = some (.int .i64 x.num) ∧ w.cell? ⟨b, off + k * 2 + 1, none⟩ = some (.slice x.A x.n x.c) := by
  have hl := h.len
  obtain ⟨xs, h1, h2, h3⟩ := h
  obtain ⟨b, off, x, rfl, hs, hb, hx, hc⟩ := h1.at_ encPg_len (j := k) (by omega) (by omega)
  have hf : ps[k]? = some ps[k] := List.getElem?_eq_getElem (by omega)
  exact ⟨b, off, x, _, rfl, hs, hb, hf, (h3 k x _ hx hf).1, (h3 k x _ hx hf).2, hc 0 _ rfl, hc 1 _ rfl⟩
/-- the pages' numbers are ints, and their cells few -/
def PgOk (p : Pg) : Prop := InR p.num ∧ (∀ z ∈ p.cells, InR z) ∧ p.cells.length ≤ 2000000
theorem flat_tk {α β : Type} (f : α → List β) (l : List α) (k : Nat) (x : α) (h : l[k]? = some x) : (l.take (k + 1)).flatMap f = (l.take k).flatMap f ++ f x := by
  rw [List.take_add_one, h, List.flatMap_append]
  simp

end Go.Proofs.Ytjcfnpmgklliiaa

namespace Go.Proofs.Ytjcfnpmgklliiaa
open Go.RowKit
set_option maxRecDepth 100000
set_option linter.unusedVariables false

/-- a struct within a block -/
theorem run_ld_mid {P : Program} {w : World} {g o : Nat} {cs : Array Value} {t e : TypeId} {d : TypeDesc} (vs : List Value) (h : w.heap[g]? = some (.cells cs e (0, 0))) (hv : ∀ (j : Nat) v, vs[j]? = some v → cs[o + j]? = some v) (hu : P.underlying t = some d) (hd : d.isRow = true) (hi : (P.info? t).map (·.size) = some vs.length) :
    (loadVar t ⟨g, o, none⟩).run P w = .ok (.agg vs.toArray) w :=
  run_loadVar_mid (P := P) w g o t vs d (fun j v hj => by rw [cell_of_row _ _ _ _ _ _ h]; exact hv j v hj) hu hd hi
structure Dt where
  proc : Int
  index : Int
  ev : Ev
deriving DecidableEq, Inhabited
def Dt.l (d : Dt) : List Int := [d.proc, d.index] ++ d.ev.l
def encDt (d : Dt) : List Value := [.int .i64 d.proc, .int .i64 d.index, .int .i64 d.ev.k0, .int .i64 d.ev.k1, .int .i64 d.ev.k2, .int .i64 d.ev.k3, .int .i64 d.ev.k4, .int .i64 d.ev.k5, .int .i64 d.ev.k6]
theorem encDt_len (d : Dt) : (encDt d).length = 9 := rfl
def dtV (d : Dt) : Value := .agg #[.int .i64 d.proc, .int .i64 d.index, .int .i64 d.ev.k0, .int .i64 d.ev.k1, .int .i64 d.ev.k2, .int .i64 d.ev.k3, .int .i64 d.ev.k4, .int .i64 d.ev.k5, .int .i64 d.ev.k6]
theorem ag_int : ∀ w : World, (isAgg 3).run Try.prog w = .ok false w := fun w => by simp [isAgg, run_underlying Try.underlying3]
theorem ag_ints : ∀ w : World, (isAgg 46).run Try.prog w = .ok false w := fun w => by simp [isAgg, run_underlying Try.underlying46]
theorem row_cell {w : World} {g : Nat} {cs : Array Value} {e : TypeId} (h : w.heap[g]? = some (.cells cs e (0, 0))) (o : Nat) (v : Value) (hv : cs[o]? = some v) : w.cell? ⟨g, o, none⟩ = some v := by rw [cell_of_row _ _ _ _ _ _ h]; exact hv
theorem get7 {a0 a1 a2 a3 a4 a5 a6 x y : Value} : ∀ (j : Nat) v, [a0, a1, a2, a3, a4, a5, a6][j]? = some v → #[x, y, a0, a1, a2, a3, a4, a5, a6][2 + j]? = some v
  | 0, _, h => h | 1, _, h => h | 2, _, h => h | 3, _, h => h | 4, _, h => h | 5, _, h => h | 6, _, h => h
  | j + 7, v, h => by simp at h

set_option maxHeartbeats 2000000 in
theorem putDet_any (A : Option Addr) (n c : Nat) (l : List UInt8) (S : Nat → Prop) (w : World) (hv : Bytes S w (.slice A n c) l) (d : Dt) (hz : ∀ z ∈ d.l, InR z) (hlen : n ≤ 1000000000) :
    Calls Try.prog 91 #[.slice A n c, dtV d] w fun r w' => ∃ v', r = .returned v' ∧ Bytes (fun _ => True) w' v' (l ++ encs d.l) ∧ Below w.heap.size w w' := by
  have hl := hv.len
  have HL := Lib.hid hl.1
  obtain ⟨W, hW⟩ : ∃ W, W = w.alloc (.cells #[.int .i64 d.proc, .int .i64 d.index, .int .i64 d.ev.k0, .int .i64 d.ev.k1, .int .i64 d.ev.k2, .int .i64 d.ev.k3, .int .i64 d.ev.k4, .int .i64 d.ev.k5, .int .i64 d.ev.k6] 38) := ⟨_, rfl⟩
  have haW : Below w.heap.size w W := by rw [hW]; exact (Below.refl _ _).alloc (Nat.le_refl _) _
  have rW : W.heap[w.heap.size]? = some (.cells #[.int .i64 d.proc, .int .i64 d.index, .int .i64 d.ev.k0, .int .i64 d.ev.k1, .int .i64 d.ev.k2, .int .i64 d.ev.k3, .int .i64 d.ev.k4, .int .i64 d.ev.k5, .int .i64 d.ev.k6] 38 (0, 0)) := by rw [hW]; exact heap_alloc_new _ _
  have hsW : w.heap.size < W.heap.size := (Array.getElem?_eq_some_iff.1 rW).1
  have RW := Lib.hid rW
  have hz2 : ∀ z ∈ [d.proc, d.index], InR z := fun z hz' => hz z (by unfold Dt.l; simp at hz' ⊢; rcases hz' with h | h <;> simp [h])
  have hze : ∀ z ∈ d.ev.l, InR z := fun z hz' => hz z (by unfold Dt.l; simp [hz'])
  have ha2 : Below W.heap.size W (W.alloc (.cells #[.int .i64 d.proc, .int .i64 d.index] 3)).drew := ((Below.refl _ _).alloc (Nat.le_refl _) _).drew
  have hlit := avoid_none (litZ W 3 [d.proc, d.index] #[.int .i64 d.proc, .int .i64 d.index] 2 rfl rfl (by omega)).drew
  have hput := put_b W (W.alloc (.cells #[.int .i64 d.proc, .int .i64 d.index] 3)).drew none (.slice A n n) l ha2 (clip_acc (w0 := W) W.heap.size (hv.ext (Below.ext haW ha2)) (by omega)) _ 2 2 [d.proc, d.index] hlit hz2 (by have := HL.out; omega)
  have Hput := Lib.hid hput
  have hl2 := encs_len [d.proc, d.index] hz2
  have hfin : l ++ encs d.l = (l ++ encs [d.proc, d.index]) ++ encs d.ev.l := by unfold Dt.l; rw [encs_append, List.append_assoc]
  rw [hfin]
  clear rW hput hlit hfin hz
  unfold dtV
  go_enter Try.func91, Try.ntmps91
  go_wp2_with fail
  rw [← hW]
  clear hW
  refine wp_region_two (Below W.heap.size W) [0, 1, 2, 3, 4, 5, 6, 7, 8, 9, 10, 11] [0, 2, 3, 4, 5, 6, 1, 7, 8, 9, 10, 11] 1 6 (by kernel_rfl) (by kernel_rfl) (by kernel_rfl) (by kernel_rfl) (by decide) (by decide) (by decide) (by decide) ((Below.refl _ _).drew) ?_ ?_
  all_goals simp only [opsOf, List.filterMap_cons, List.filterMap_nil, List.getElem?_cons_zero, List.getElem?_cons_succ]
  · repeat (first | (refine lexL_q0 rfl ?_; go_big_quiet_step (fail); refine wpQuiet_nil ?_) | (refine lexL_skip0 rfl rfl ?_; simp only [Act.put, List.setIfInBounds_toArray, List.set_cons_succ, List.set_cons_zero]))
    refine lexL_e rfl ?_
    go_wp2_with fail
    refine (clip_any A n c W.drew hl.2.1 hl.2.2).mono ?_
    rintro r w1 ⟨rfl, rfl⟩
    go_wp2_with fail
    refine lexL_go ((Below.refl _ _).drew) ?_
    repeat (first | (refine lexL_q0 rfl ?_; go_big_quiet_step (fail); refine wpQuiet_nil ?_) | (refine lexL_skip0 rfl rfl ?_; simp only [Act.put, List.setIfInBounds_toArray, List.set_cons_succ, List.set_cons_zero]))
    refine lexL_ld (⟨w.heap.size, 0, none⟩) (.int .i64 d.proc) rfl rfl rfl (fun w' hS => run_ld1 (ag_int _) (row_cell ((hS.block _ hsW).trans RW.out) 0 _ rfl)) ?_
    simp only [Act.put, List.setIfInBounds_toArray, List.set_cons_succ, List.set_cons_zero]
    repeat (first | (refine lexL_q0 rfl ?_; go_big_quiet_step (fail); refine wpQuiet_nil ?_) | (refine lexL_skip0 rfl rfl ?_; simp only [Act.put, List.setIfInBounds_toArray, List.set_cons_succ, List.set_cons_zero]))
    refine lexL_ld (⟨w.heap.size, 1, none⟩) (.int .i64 d.index) rfl rfl rfl (fun w' hS => run_ld1 (ag_int _) (row_cell ((hS.block _ hsW).trans RW.out) 1 _ rfl)) ?_
    simp only [Act.put, List.setIfInBounds_toArray, List.set_cons_succ, List.set_cons_zero]
    repeat (first | (refine lexL_q0 rfl ?_; go_big_quiet_step (fail); refine wpQuiet_nil ?_) | (refine lexL_skip0 rfl rfl ?_; simp only [Act.put, List.setIfInBounds_toArray, List.set_cons_succ, List.set_cons_zero]))
    refine lexL_e rfl ?_
    go_wp2_with fail
    refine lexL_go ha2 ?_
    repeat (first | (refine lexL_q0 rfl ?_; go_big_quiet_step (fail); refine wpQuiet_nil ?_) | (refine lexL_skip0 rfl rfl ?_; simp only [Act.put, List.setIfInBounds_toArray, List.set_cons_succ, List.set_cons_zero]))
    refine lexL_e rfl ?_
    go_wp2_with fail
    refine Hput.out.mono ?_
    rintro r w2 ⟨v2, row2, rfl, hacc2, hb2, _⟩
    go_wp2_with fail
    refine lexL_go (hb2) ?_
    repeat (first | (refine lexL_q0 rfl ?_; go_big_quiet_step (fail); refine wpQuiet_nil ?_) | (refine lexL_skip0 rfl rfl ?_; simp only [Act.put, List.setIfInBounds_toArray, List.set_cons_succ, List.set_cons_zero]))
    refine lexL_ld (⟨w.heap.size, 2, none⟩) (.agg #[.int .i64 d.ev.k0, .int .i64 d.ev.k1, .int .i64 d.ev.k2, .int .i64 d.ev.k3, .int .i64 d.ev.k4, .int .i64 d.ev.k5, .int .i64 d.ev.k6]) rfl rfl rfl (fun w' hS => run_ld_mid (o := 2) [.int .i64 d.ev.k0, .int .i64 d.ev.k1, .int .i64 d.ev.k2, .int .i64 d.ev.k3, .int .i64 d.ev.k4, .int .i64 d.ev.k5, .int .i64 d.ev.k6] ((hS.block _ hsW).trans RW.out) get7 Try.underlying36 rfl (by kernel_rfl)) ?_
    simp only [Act.put, List.setIfInBounds_toArray, List.set_cons_succ, List.set_cons_zero]
    repeat (first | (refine lexL_q0 rfl ?_; go_big_quiet_step (fail); refine wpQuiet_nil ?_) | (refine lexL_skip0 rfl rfl ?_; simp only [Act.put, List.setIfInBounds_toArray, List.set_cons_succ, List.set_cons_zero]))
    refine lexL_e rfl ?_
    go_wp2_with fail
    have hpe := putEvent_b W w2 row2 v2 _ hb2 hacc2 d.ev hze (by rw [List.length_append]; have := HL.out; simp at hl2; omega)
    unfold evV at hpe
    refine hpe.mono ?_
    rintro r w3 ⟨v3, row3, rfl, hacc3, hb3⟩
    go_wp2_with fail
    refine lexL_go (hb3) ?_
    repeat (first | (refine lexL_q0 rfl ?_; go_big_quiet_step (fail); refine wpQuiet_nil ?_) | (refine lexL_skip0 rfl rfl ?_; simp only [Act.put, List.setIfInBounds_toArray, List.set_cons_succ, List.set_cons_zero]))
    refine lexL_nil ?_
    go_wp2_with fail
    go_wp2
    go_ret
    exact ⟨v3, rfl, hacc3.bytes, Below.ext haW hb3⟩
  · repeat (first | (refine lexL_q0 rfl ?_; go_big_quiet_step (fail); refine wpQuiet_nil ?_) | (refine lexL_skip0 rfl rfl ?_; simp only [Act.put, List.setIfInBounds_toArray, List.set_cons_succ, List.set_cons_zero]))
    refine lexL_ld (⟨w.heap.size, 0, none⟩) (.int .i64 d.proc) rfl rfl rfl (fun w' hS => run_ld1 (ag_int _) (row_cell ((hS.block _ hsW).trans RW.out) 0 _ rfl)) ?_
    simp only [Act.put, List.setIfInBounds_toArray, List.set_cons_succ, List.set_cons_zero]
    repeat (first | (refine lexL_q0 rfl ?_; go_big_quiet_step (fail); refine wpQuiet_nil ?_) | (refine lexL_skip0 rfl rfl ?_; simp only [Act.put, List.setIfInBounds_toArray, List.set_cons_succ, List.set_cons_zero]))
    refine lexL_ld (⟨w.heap.size, 1, none⟩) (.int .i64 d.index) rfl rfl rfl (fun w' hS => run_ld1 (ag_int _) (row_cell ((hS.block _ hsW).trans RW.out) 1 _ rfl)) ?_
    simp only [Act.put, List.setIfInBounds_toArray, List.set_cons_succ, List.set_cons_zero]
    repeat (first | (refine lexL_q0 rfl ?_; go_big_quiet_step (fail); refine wpQuiet_nil ?_) | (refine lexL_skip0 rfl rfl ?_; simp only [Act.put, List.setIfInBounds_toArray, List.set_cons_succ, List.set_cons_zero]))
    refine lexL_e rfl ?_
    go_wp2_with fail
    refine lexL_go ha2 ?_
    repeat (first | (refine lexL_q0 rfl ?_; go_big_quiet_step (fail); refine wpQuiet_nil ?_) | (refine lexL_skip0 rfl rfl ?_; simp only [Act.put, List.setIfInBounds_toArray, List.set_cons_succ, List.set_cons_zero]))
    refine lexL_e rfl ?_
    go_wp2_with fail
    refine (clip_any A n c (W.alloc (.cells #[.int .i64 d.proc, .int .i64 d.index] 3)).drew hl.2.1 hl.2.2).mono ?_
    rintro r w1 ⟨rfl, rfl⟩
    go_wp2_with fail
    refine lexL_go (ha2) ?_
    repeat (first | (refine lexL_q0 rfl ?_; go_big_quiet_step (fail); refine wpQuiet_nil ?_) | (refine lexL_skip0 rfl rfl ?_; simp only [Act.put, List.setIfInBounds_toArray, List.set_cons_succ, List.set_cons_zero]))
    refine lexL_e rfl ?_
    go_wp2_with fail
    refine Hput.out.mono ?_
    rintro r w2 ⟨v2, row2, rfl, hacc2, hb2, _⟩
    go_wp2_with fail
    refine lexL_go (hb2) ?_
    repeat (first | (refine lexL_q0 rfl ?_; go_big_quiet_step (fail); refine wpQuiet_nil ?_) | (refine lexL_skip0 rfl rfl ?_; simp only [Act.put, List.setIfInBounds_toArray, List.set_cons_succ, List.set_cons_zero]))
    refine lexL_ld (⟨w.heap.size, 2, none⟩) (.agg #[.int .i64 d.ev.k0, .int .i64 d.ev.k1, .int .i64 d.ev.k2, .int .i64 d.ev.k3, .int .i64 d.ev.k4, .int .i64 d.ev.k5, .int .i64 d.ev.k6]) rfl rfl rfl (fun w' hS => run_ld_mid (o := 2) [.int .i64 d.ev.k0, .int .i64 d.ev.k1, .int .i64 d.ev.k2, .int .i64 d.ev.k3, .int .i64 d.ev.k4, .int .i64 d.ev.k5, .int .i64 d.ev.k6] ((hS.block _ hsW).trans RW.out) get7 Try.underlying36 rfl (by kernel_rfl)) ?_
    simp only [Act.put, List.setIfInBounds_toArray, List.set_cons_succ, List.set_cons_zero]
    repeat (first | (refine lexL_q0 rfl ?_; go_big_quiet_step (fail); refine wpQuiet_nil ?_) | (refine lexL_skip0 rfl rfl ?_; simp only [Act.put, List.setIfInBounds_toArray, List.set_cons_succ, List.set_cons_zero]))
    refine lexL_e rfl ?_
    go_wp2_with fail
    have hpe := putEvent_b W w2 row2 v2 _ hb2 hacc2 d.ev hze (by rw [List.length_append]; have := HL.out; simp at hl2; omega)
    unfold evV at hpe
    refine hpe.mono ?_
    rintro r w3 ⟨v3, row3, rfl, hacc3, hb3⟩
    go_wp2_with fail
    refine lexL_go (hb3) ?_
    repeat (first | (refine lexL_q0 rfl ?_; go_big_quiet_step (fail); refine wpQuiet_nil ?_) | (refine lexL_skip0 rfl rfl ?_; simp only [Act.put, List.setIfInBounds_toArray, List.set_cons_succ, List.set_cons_zero]))
    refine lexL_nil ?_
    go_wp2_with fail
    go_wp2
    go_ret
    exact ⟨v3, rfl, hacc3.bytes, Below.ext haW hb3⟩

set_option maxHeartbeats 2000000 in
theorem refputDet_any (v : Value) (l : List UInt8) (S : Nat → Prop) (w : World) (hv : Bytes S w v l) (d : Dt) (hz : ∀ z ∈ d.l, InR z) (hlen : l.length ≤ 100000000) :
    Calls Try.prog 18 #[v, dtV d] w fun r w' => ∃ v', r = .returned v' ∧ Bytes (fun _ => True) w' v' (l ++ encs d.l) ∧ Below w.heap.size w w' := by
  obtain ⟨W, hW⟩ : ∃ W, W = w.alloc (.cells #[.int .i64 d.proc, .int .i64 d.index, .int .i64 d.ev.k0, .int .i64 d.ev.k1, .int .i64 d.ev.k2, .int .i64 d.ev.k3, .int .i64 d.ev.k4, .int .i64 d.ev.k5, .int .i64 d.ev.k6] 38) := ⟨_, rfl⟩
  have haW : Below w.heap.size w W := by rw [hW]; exact (Below.refl _ _).alloc (Nat.le_refl _) _
  have rW : W.heap[w.heap.size]? = some (.cells #[.int .i64 d.proc, .int .i64 d.index, .int .i64 d.ev.k0, .int .i64 d.ev.k1, .int .i64 d.ev.k2, .int .i64 d.ev.k3, .int .i64 d.ev.k4, .int .i64 d.ev.k5, .int .i64 d.ev.k6] 38 (0, 0)) := by rw [hW]; exact heap_alloc_new _ _
  have hsW : w.heap.size < W.heap.size := (Array.getElem?_eq_some_iff.1 rW).1
  have RW := Lib.hid rW
  have hz2 : ∀ z ∈ [d.proc, d.index], InR z := fun z hz' => hz z (by unfold Dt.l; simp at hz' ⊢; rcases hz' with h | h <;> simp [h])
  have hze : ∀ z ∈ d.ev.l, InR z := fun z hz' => hz z (by unfold Dt.l; simp [hz'])
  have ha2 : Below W.heap.size W (W.alloc (.cells #[.int .i64 d.proc, .int .i64 d.index] 3)).drew := ((Below.refl _ _).alloc (Nat.le_refl _) _).drew
  have hlit := (litZ W 3 [d.proc, d.index] #[.int .i64 d.proc, .int .i64 d.index] 2 rfl rfl (by omega)).drew
  have hput := refints_any v l _ (W.alloc (.cells #[.int .i64 d.proc, .int .i64 d.index] 3)).drew (hv.ext (Below.ext haW ha2)) _ 2 2 [d.proc, d.index] _ hlit hz2 (by omega)
  have Hput := Lib.hid hput
  have hl2 := encs_len [d.proc, d.index] hz2
  have hfin : l ++ encs d.l = (l ++ encs [d.proc, d.index]) ++ encs d.ev.l := by unfold Dt.l; rw [encs_append, List.append_assoc]
  rw [hfin]
  clear rW hput hlit hfin hz
  unfold dtV
  go_enter Try.func18, Try.ntmps18
  go_wp2_with fail
  rw [← hW]
  clear hW
  refine wp_region_lexL (Below W.heap.size W) (by kernel_rfl) (by kernel_rfl) ((Below.refl _ _).drew) ?_
  repeat (first | (refine lexL_q0 rfl ?_; go_big_quiet_step (fail); refine wpQuiet_nil ?_) | (refine lexL_skip0 rfl rfl ?_; simp only [Act.put, List.setIfInBounds_toArray, List.set_cons_succ, List.set_cons_zero]))
  refine lexL_ld (⟨w.heap.size, 0, none⟩) (.int .i64 d.proc) rfl rfl rfl (fun w' hS => run_ld1 (ag_int _) (row_cell ((hS.block _ hsW).trans RW.out) 0 _ rfl)) ?_
  simp only [Act.put, List.setIfInBounds_toArray, List.set_cons_succ, List.set_cons_zero]
  repeat (first | (refine lexL_q0 rfl ?_; go_big_quiet_step (fail); refine wpQuiet_nil ?_) | (refine lexL_skip0 rfl rfl ?_; simp only [Act.put, List.setIfInBounds_toArray, List.set_cons_succ, List.set_cons_zero]))
  refine lexL_ld (⟨w.heap.size, 1, none⟩) (.int .i64 d.index) rfl rfl rfl (fun w' hS => run_ld1 (ag_int _) (row_cell ((hS.block _ hsW).trans RW.out) 1 _ rfl)) ?_
  simp only [Act.put, List.setIfInBounds_toArray, List.set_cons_succ, List.set_cons_zero]
  repeat (first | (refine lexL_q0 rfl ?_; go_big_quiet_step (fail); refine wpQuiet_nil ?_) | (refine lexL_skip0 rfl rfl ?_; simp only [Act.put, List.setIfInBounds_toArray, List.set_cons_succ, List.set_cons_zero]))
  refine lexL_e rfl ?_
  go_wp2_with fail
  refine lexL_go ha2 ?_
  repeat (first | (refine lexL_q0 rfl ?_; go_big_quiet_step (fail); refine wpQuiet_nil ?_) | (refine lexL_skip0 rfl rfl ?_; simp only [Act.put, List.setIfInBounds_toArray, List.set_cons_succ, List.set_cons_zero]))
  refine lexL_e rfl ?_
  go_wp2_with fail
  refine Hput.out.mono ?_
  rintro r w2 ⟨v2, rfl, hby2, hb2⟩
  have b2 := Below.ext ha2 hb2
  go_wp2_with fail
  refine lexL_go (b2) ?_
  repeat (first | (refine lexL_q0 rfl ?_; go_big_quiet_step (fail); refine wpQuiet_nil ?_) | (refine lexL_skip0 rfl rfl ?_; simp only [Act.put, List.setIfInBounds_toArray, List.set_cons_succ, List.set_cons_zero]))
  refine lexL_ld (⟨w.heap.size, 2, none⟩) (.agg #[.int .i64 d.ev.k0, .int .i64 d.ev.k1, .int .i64 d.ev.k2, .int .i64 d.ev.k3, .int .i64 d.ev.k4, .int .i64 d.ev.k5, .int .i64 d.ev.k6]) rfl rfl rfl (fun w' hS => run_ld_mid (o := 2) [.int .i64 d.ev.k0, .int .i64 d.ev.k1, .int .i64 d.ev.k2, .int .i64 d.ev.k3, .int .i64 d.ev.k4, .int .i64 d.ev.k5, .int .i64 d.ev.k6] ((hS.block _ hsW).trans RW.out) get7 Try.underlying36 rfl (by kernel_rfl)) ?_
  simp only [Act.put, List.setIfInBounds_toArray, List.set_cons_succ, List.set_cons_zero]
  repeat (first | (refine lexL_q0 rfl ?_; go_big_quiet_step (fail); refine wpQuiet_nil ?_) | (refine lexL_skip0 rfl rfl ?_; simp only [Act.put, List.setIfInBounds_toArray, List.set_cons_succ, List.set_cons_zero]))
  refine lexL_e rfl ?_
  go_wp2_with fail
  have hpe := refputEvent_any v2 _ _ w2 hby2 d.ev hze (by rw [List.length_append]; simp at hl2; omega)
  unfold evV at hpe
  refine hpe.mono ?_
  rintro r w3 ⟨v3, rfl, hby3, hb3⟩
  have b3 := Below.ext b2 hb3
  go_wp2_with fail
  refine lexL_go (b3) ?_
  repeat (first | (refine lexL_q0 rfl ?_; go_big_quiet_step (fail); refine wpQuiet_nil ?_) | (refine lexL_skip0 rfl rfl ?_; simp only [Act.put, List.setIfInBounds_toArray, List.set_cons_succ, List.set_cons_zero]))
  refine lexL_nil ?_
  go_wp2_with fail
  go_wp2
  go_ret
  exact ⟨v3, rfl, hby3, Below.ext haW b3⟩

end Go.Proofs.Ytjcfnpmgklliiaa

namespace Go.Proofs.Ytjcfnpmgklliiaa
open Go.RowKit
set_option maxRecDepth 100000
set_option linter.unusedVariables false

structure Snd where
  a : Int
  b : Int
  c : Int
  d : Int
deriving DecidableEq, Inhabited
def Snd.l (x : Snd) : List Int := [x.a, x.b, x.c, x.d]
def encSn (x : Snd) : List Value := [.int .i64 x.a, .int .i64 x.b, .int .i64 x.c, .int .i64 x.d]
theorem encSn_len (x : Snd) : (encSn x).length = 4 := rfl
structure Ou where
  a : Int
  b : Int
deriving DecidableEq, Inhabited
def Ou.l (x : Ou) : List Int := [x.a, x.b]
def encOu (x : Ou) : List Value := [.int .i64 x.a, .int .i64 x.b]
theorem encOu_len (x : Ou) : (encOu x).length = 2 := rfl
structure Stt where
  cells : List Int
  evs : List Ev
  sent : List Snd
  outs : List Ou
deriving DecidableEq, Inhabited
def Stt.l (s : Stt) : List Int := [(s.cells.length : Int)] ++ s.cells ++ [(s.evs.length : Int)] ++ s.evs.flatMap Ev.l ++ [(s.sent.length : Int)] ++ s.sent.flatMap Snd.l ++ [(s.outs.length : Int)] ++ s.outs.flatMap Ou.l
structure SttOk (s : Stt) : Prop where
  cells : ∀ z ∈ s.cells, InR z
  evs : ∀ e ∈ s.evs, ∀ z ∈ e.l, InR z
  sent : ∀ e ∈ s.sent, ∀ z ∈ e.l, InR z
  outs : ∀ e ∈ s.outs, ∀ z ∈ e.l, InR z
  small : s.cells.length ≤ 2000000
/-- two orders that come to the same -/
theorem wp_meet {P : Program} {code : Code} {Q : Exit → Act → World → Prop} {a : Act} {w : World} (F : Value → Option Nat → World → Prop) (mk : Value → Act)
    (h1 : code.wp P (fun e a' w' => e = .normal ∧ ∃ x row, F x row w' ∧ a' = mk x) a w) (h2 : ∀ x row w', F x row w' → Q .normal (mk x) w') : code.wp P Q a w :=
  Code.wp_mono (fun e a' w' ⟨he, x, row, hF, ha⟩ => by subst he ha; exact h2 x row w' hF) h1
theorem len1 (z : Nat) (hz : z ≤ 1000000000) : ∀ x ∈ [(z : Int)], InR x := by
  intro x hx
  simp at hx
  subst hx
  exact ⟨by omega, by omega⟩

end Go.Proofs.Ytjcfnpmgklliiaa

namespace Go.Proofs.Ytjcfnpmgklliiaa
open Go.RowKit
set_option maxRecDepth 100000
set_option linter.unusedVariables false

end Go.Proofs.Ytjcfnpmgklliiaa

namespace Go.Proofs.Ytjcfnpmgklliiaa
open Go.RowKit
set_option maxRecDepth 100000
set_option linter.unusedVariables false

/-- read, and go on -/
def bnd {α β : Type} (x : Except Nat (α × Nat)) (f : α → Nat → Except Nat (β × Nat)) : Except Nat (β × Nat) := match x with | .ok (a, q) => f a q | .error k => .error k
theorem bnd_ok {α β : Type} {x : Except Nat (α × Nat)} {f : α → Nat → Except Nat (β × Nat)} {a : α} {q : Nat} (h : x = .ok (a, q)) : bnd x f = f a q := by rw [h]; rfl
theorem bnd_er {α β : Type} {x : Except Nat (α × Nat)} {f : α → Nat → Except Nat (β × Nat)} {k : Nat} (h : x = .error k) : bnd x f = .error k := by rw [h]; rfl
def rdEv (L : List UInt8) (p : Nat) : Except Nat (Ev × Nat) := bnd (rdInt L p) fun a0 p1 => bnd (rdInt L p1) fun a1 p2 => bnd (rdInt L p2) fun a2 p3 => bnd (rdInt L p3) fun a3 p4 => bnd (rdInt L p4) fun a4 p5 => bnd (rdInt L p5) fun a5 p6 => bnd (rdInt L p6) fun a6 p7 => .ok (⟨a0, a1, a2, a3, a4, a5, a6⟩, p7)
def rdSn (L : List UInt8) (p : Nat) : Except Nat (Snd × Nat) := bnd (rdInt L p) fun a0 p1 => bnd (rdInt L p1) fun a1 p2 => bnd (rdInt L p2) fun a2 p3 => bnd (rdInt L p3) fun a3 p4 => .ok (⟨a0, a1, a2, a3⟩, p4)
def rdOu (L : List UInt8) (p : Nat) : Except Nat (Ou × Nat) := bnd (rdInt L p) fun a0 p1 => bnd (rdInt L p1) fun a1 p2 => .ok (⟨a0, a1⟩, p2)
def rdDt (L : List UInt8) (p : Nat) : Except Nat (Dt × Nat) := bnd (rdInt L p) fun a p1 => bnd (rdInt L p1) fun b p2 => bnd (rdEv L p2) fun e p3 => .ok (⟨a, b, e⟩, p3)
def rdRep {α : Type} (f : Nat → Except Nat (α × Nat)) : Nat → Nat → Except Nat (List α × Nat)
  | 0, p => .ok ([], p)
  | n + 1, p => bnd (f p) fun a q => bnd (rdRep f n q) fun l q' => .ok (a :: l, q')
def rdList {α : Type} (f : Nat → Except Nat (α × Nat)) (L : List UInt8) (p : Nat) : Except Nat (List α × Nat) :=
  bnd (rdInt L p) fun n q => if n < 0 ∨ (L.length : Int) - (q : Int) < n then .error 9 else rdRep f n.toNat q
def rdPg (L : List UInt8) (p : Nat) : Except Nat (Pg × Nat) := bnd (rdInt L p) fun a p1 => bnd (rdList (rdInt L) L p1) fun l p2 => .ok (⟨a, l⟩, p2)
def rdPgs (L : List UInt8) (p : Nat) : Except Nat (List Pg × Nat) := rdList (rdPg L) L p
def rdSt (L : List UInt8) (p : Nat) : Except Nat (Stt × Nat) := bnd (rdList (rdInt L) L p) fun a p1 => bnd (rdList (rdEv L) L p1) fun b p2 => bnd (rdList (rdSn L) L p2) fun c p3 => bnd (rdList (rdOu L) L p3) fun d p4 => .ok (⟨a, b, c, d⟩, p4)
/-- a list that is read, told from its middle -/
theorem rdRep_step {α : Type} {f : Nat → Except Nat (α × Nat)} {n q q1 : Nat} {a : α} {acc : List α} (h : f q = .ok (a, q1)) : bnd (rdRep f (n + 1) q) (fun l q' => .ok (acc ++ l, q')) = bnd (rdRep f n q1) (fun l q' => .ok ((acc ++ [a]) ++ l, q')) := by
  rw [rdRep, bnd_ok h]
  cases rdRep f n q1 with
  | ok x => show Except.ok (acc ++ a :: x.1, x.2) = Except.ok (acc ++ [a] ++ x.1, x.2); rw [List.append_assoc]; rfl
  | error k => rfl
theorem rdRep_err {α β : Type} {f : Nat → Except Nat (α × Nat)} {n q k : Nat} {g : List α → Nat → Except Nat (β × Nat)} (h : f q = .error k) : bnd (rdRep f (n + 1) q) g = .error k := by
  rw [rdRep, bnd_er h]
  rfl
theorem rdList_start {α : Type} {f : Nat → Except Nat (α × Nat)} {L : List UInt8} {p q m : Nat} (h : rdInt L p = .ok ((m : Int), q)) (hm : ¬ (L.length : Int) - (q : Int) < (m : Int)) : rdList f L p = bnd (rdRep f m q) (fun l q' => .ok ([] ++ l, q')) := by
  unfold rdList
  rw [bnd_ok h, if_neg (by omega), Int.toNat_natCast]
  cases rdRep f m q with
  | ok x => rfl
  | error k => rfl
theorem rdList_bad {α : Type} {f : Nat → Except Nat (α × Nat)} {L : List UInt8} {p q : Nat} {n : Int} (h : rdInt L p = .ok (n, q)) (hm : n < 0 ∨ (L.length : Int) - (q : Int) < n) : rdList f L p = .error 9 := by
  unfold rdList
  rw [bnd_ok h, if_pos hm]
def snV (x : Snd) : Value := .agg #[.int .i64 x.a, .int .i64 x.b, .int .i64 x.c, .int .i64 x.d]
def ouV (x : Ou) : Value := .agg #[.int .i64 x.a, .int .i64 x.b]

/-- a reader and two boxes of a struct: the result's and the variable's -/
structure RB (B r : Nat) (L : List UInt8) (T : TypeId) (c2 : Array Value) (w : World) (wr : World) (q : Nat) (c3 : Array Value) : Prop where
  rd : Rdr B wr r L q
  lt : r < w.heap.size
  gr : w.grownBy wr (some r)
  b2 : wr.heap[w.heap.size]? = some (.cells c2 T (0, 0))
  b3 : wr.heap[w.heap.size + 1]? = some (.cells c3 T (0, 0))
section
variable {B r : Nat} {L : List UInt8} {T : TypeId} {c2 : Array Value} {w wr w' : World} {q q' : Nat} {c3 : Array Value}
theorem RB.new (h : Rdr B w r L q) : ∃ W, W = (w.alloc (.cells c2 T)).alloc (.cells c3 T) ∧ RB B r L T c2 w W q c3 := by
  have hlt := h.lt
  have hb1 : Below w.heap.size w (w.alloc (.cells c2 T)) := (Below.refl _ w).alloc (Nat.le_refl _) _
  have hb2 : Below (w.alloc (.cells c2 T)).heap.size (w.alloc (.cells c2 T)) ((w.alloc (.cells c2 T)).alloc (.cells c3 T)) := (Below.refl _ _).alloc (Nat.le_refl _) _
  have hb := Below.ext hb1 hb2
  refine ⟨_, rfl, h.ext hb, hlt, ⟨hb.os, hb.tape, hb.output, hb.size, fun i hi _ => hb.block i hi⟩, (hb2.block _ (by simp)).trans (heap_alloc_new _ _), ?_⟩
  have := heap_alloc_new (w.alloc (.cells c2 T)) (.cells c3 T)
  rwa [World.size_alloc] at this
theorem RB.sz (h : RB B r L T c2 w wr q c3) : w.heap.size + 2 ≤ wr.heap.size := (Array.getElem?_eq_some_iff.1 h.b3).1
theorem RB.call (h : RB B r L T c2 w wr q c3) (hR : Rdr B w' r L q') (hg : wr.grownBy w' (some r)) : RB B r L T c2 w w' q' c3 :=
  have hs := h.sz
  have hl := h.lt
  ⟨hR, h.lt, grown_tr h.gr hg, (hg.block _ (by omega) (by simp; omega)).trans h.b2, (hg.block _ (by omega) (by simp; omega)).trans h.b3⟩
theorem RB.set (h : RB B r L T c2 w wr q c3) (o : Nat) (v : Value) : RB B r L T c2 w (wr.setCell ⟨w.heap.size + 1, o, none⟩ v) q (c3.setIfInBounds o v) :=
  have hs := h.sz
  have hl := h.lt
  have hB := h.rd.1
  have hg : wr.grownBy (wr.setCell ⟨w.heap.size + 1, o, none⟩ v) (some (w.heap.size + 1)) := grown_set ⟨rfl, rfl, rfl, Nat.le_refl _, fun _ _ _ => rfl⟩
  ⟨h.rd.grown hg (fun m hm => by cases hm; omega), h.lt, ⟨hg.os.trans h.gr.os, hg.tape.trans h.gr.tape, hg.output.trans h.gr.output, Nat.le_trans h.gr.size hg.size, fun i hi hne => (hg.block i (Nat.lt_of_lt_of_le hi h.gr.size) (by simp; omega)).trans (h.gr.block i hi hne)⟩,
    (hg.block _ (by omega) (by simp)).trans h.b2, heap_setCell_same _ _ o _ _ _ h.b3⟩
theorem RB.end_ (h : RB B r L T c2 w wr q c3) (cs : Array Value) : Rdr B (wr.setRow w.heap.size cs) r L q ∧ w.grownBy (wr.setRow w.heap.size cs) (some r) :=
  have hs := h.sz
  have hl := h.lt
  have hB := h.rd.1
  have hg := grown_setRow wr w.heap.size cs
  ⟨h.rd.grown hg (fun m hm => by cases hm; omega), ⟨hg.os.trans h.gr.os, hg.tape.trans h.gr.tape, hg.output.trans h.gr.output, Nat.le_trans h.gr.size hg.size, fun i hi hne => (hg.block i (Nat.lt_of_lt_of_le hi h.gr.size) (by simp; omega)).trans (h.gr.block i hi hne)⟩⟩
theorem RB.cell (h : RB B r L T c2 w wr q c3) (o : Nat) {v : Value} (hv : c3[o]? = some v) : wr.cell? ⟨w.heap.size + 1, o, none⟩ = some v := by rw [cell_of_row _ _ _ _ _ _ h.b3]; exact hv
theorem RB.frz (h : RB B r L T c2 w wr q c3) (o : Nat) : wr.frozen? ⟨w.heap.size + 1, o, none⟩ = false := frozen_of_row _ _ _ _ _ h.b3
end
end Go.Proofs.Ytjcfnpmgklliiaa
