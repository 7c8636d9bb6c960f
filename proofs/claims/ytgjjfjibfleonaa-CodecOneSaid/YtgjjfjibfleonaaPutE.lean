/-
  Events, determinants and pages are written: package codec and the document.
-/
import Derived.Test.YtgjjfjibfleonaaPut
namespace Go.Proofs.Ytgjjfjibfleonaa
open Go.RowKit
set_option maxRecDepth 100000
set_option linter.unusedVariables false

abbrev InR (z : Int) : Prop := -9223372036854775808 ≤ z ∧ z ≤ 9223372036854775807
theorem encs_len : ∀ (zs : List Int), (∀ z ∈ zs, InR z) → (encs zs).length ≤ 10 * zs.length
  | [], _ => by simp [encs]
  | z :: zs, h => by
    have h1 := encs_len zs (fun z hz => h z (by simp [hz]))
    have h2 := encI_len (h z (by simp)).1 (h z (by simp)).2
    unfold encs at *
    rw [List.flatMap_cons, List.length_append, List.length_cons]
    omega
theorem encs_append (a b : List Int) : encs (a ++ b) = encs a ++ encs b := by unfold encs; exact List.flatMap_append ..
/-- a list that was just made -/
theorem litZ (w : World) (t : TypeId) (zs : List Int) (cs : Array Value) (n : Nat) (hn : n = zs.length) (h : cs.toList = zs.flatMap encZ) (hle : n ≤ 1000) : Recs encZ (fun b => b = w.heap.size) (w.alloc (.cells cs t)) (.slice (some ⟨w.heap.size, 0, none⟩) n n) zs := by
  subst hn
  refine ⟨_, zs.length, rfl, Nat.le_refl _, by unfold maxLen; omega, fun _ => ⟨w.heap.size, 0, rfl, rfl, fun j u hu => ?_⟩⟩
  rw [cell_of_row _ _ _ _ _ _ (heap_alloc_new w _), Nat.zero_add, ← h] at *
  simpa using hu
theorem Below.of_row {w0 w w' : World} {row : Option Nat} (hb : Below w0.heap.size w0 w) (hg : w.grownBy w' row) (hr : ∀ m, row = some m → w0.heap.size ≤ m) : Below w0.heap.size w0 w' := hb.grown hg hb.size hr

set_option maxHeartbeats 400000 in
/-- codec.put, told from a world in which the bytes that are appended to were not yet made -/
theorem put_b (w0 w : World) (row : Option Nat) (v : Value) (l : List UInt8) (hb : Below w0.heap.size w0 w) (hacc : Acc w w0.heap.size row v l) (Au : Option Addr) (nu cu : Nat) (zs : List Int) (hu : Recs encZ (fun b => row ≠ some b) w (.slice Au nu cu) zs) (hz : ∀ z ∈ zs, InR z) (hlen : l.length + 10 * nu ≤ 100000000000) :
    Calls Try.prog 30 #[v, .slice Au nu cu] w fun e w' => ∃ v' row', e = .returned v' ∧ Acc w' w0.heap.size row' v' (l ++ encs zs) ∧ Below w0.heap.size w0 w' ∧ w.grownBy w' row := by
  refine (put_any w0.heap.size row v l w hacc hb.size Au nu cu zs hu hz hlen).mono ?_
  rintro e w' ⟨v', row', rfl, hacc', hrow, hg⟩
  exact ⟨v', row', rfl, hacc', Below.of_row hb hg (fun m hm => (hacc.lo m hm).1), hg⟩
theorem Acc.avoid {w : World} {base : Nat} {row : Option Nat} {v : Value} {l : List UInt8} (h : Acc w base row v l) {b : Nat} (hb : b < base ∨ w.heap.size ≤ b) : row ≠ some b := fun e => by
  have := h.lo b e
  omega

/-- an event: its seven numbers -/
structure Ev where
  k0 : Int
  k1 : Int
  k2 : Int
  k3 : Int
  k4 : Int
  k5 : Int
  k6 : Int
deriving DecidableEq, Inhabited
def Ev.l (e : Ev) : List Int := [e.k0, e.k1, e.k2, e.k3, e.k4, e.k5, e.k6]
def encEv (e : Ev) : List Value := [.int .i64 e.k0, .int .i64 e.k1, .int .i64 e.k2, .int .i64 e.k3, .int .i64 e.k4, .int .i64 e.k5, .int .i64 e.k6]
theorem encEv_len (e : Ev) : (encEv e).length = 7 := rfl
def evV (e : Ev) : Value := .agg #[.int .i64 e.k0, .int .i64 e.k1, .int .i64 e.k2, .int .i64 e.k3, .int .i64 e.k4, .int .i64 e.k5, .int .i64 e.k6]

set_option maxHeartbeats 1000000 in
theorem putEvent_b (w0 w : World) (row : Option Nat) (v : Value) (l : List UInt8) (hb : Below w0.heap.size w0 w) (hacc : Acc w w0.heap.size row v l) (e : Ev) (hz : ∀ z ∈ e.l, InR z) (hlen : l.length ≤ 10000000000) :
    Calls Try.prog 32 #[v, evV e] w fun r w' => ∃ v' row', r = .returned v' ∧ Acc w' w0.heap.size row' v' (l ++ encs e.l) ∧ Below w0.heap.size w0 w' := by
  obtain ⟨W, hW⟩ : ∃ W, W = (w.alloc (.cells #[.int .i64 e.k0, .int .i64 e.k1, .int .i64 e.k2, .int .i64 e.k3, .int .i64 e.k4, .int .i64 e.k5, .int .i64 e.k6] 35)).alloc (.cells #[.int .i64 e.k0, .int .i64 e.k1, .int .i64 e.k2, .int .i64 e.k3, .int .i64 e.k4, .int .i64 e.k5, .int .i64 e.k6] 3) := ⟨_, rfl⟩
  have haW : Below w.heap.size w W := by rw [hW]; exact ((Below.refl _ _).alloc (Nat.le_refl _) _).alloc (by simp) _
  have hlit : Recs encZ (fun b => row ≠ some b) W (.slice (some ⟨w.heap.size + 1, 0, none⟩) 7 7) e.l := by
    rw [hW]
    have := litZ (w.alloc (.cells #[.int .i64 e.k0, .int .i64 e.k1, .int .i64 e.k2, .int .i64 e.k3, .int .i64 e.k4, .int .i64 e.k5, .int .i64 e.k6] 35)) 3 e.l #[.int .i64 e.k0, .int .i64 e.k1, .int .i64 e.k2, .int .i64 e.k3, .int .i64 e.k4, .int .i64 e.k5, .int .i64 e.k6] 7 rfl rfl (by omega)
    rw [World.size_alloc] at this
    exact this.mono (fun b _ h => hacc.avoid (.inr (by omega)))
  have hput := put_b w0 W row v l (Below.ext hb haW) (hacc.ext haW) _ 7 7 e.l hlit hz (by omega)
  have Hput := Lib.hid hput
  clear hput hlit
  unfold evV
  go_enter Try.func32, Try.ntmps32
  go_wp2_with fail
  rw [← hW]
  refine Hput.out.mono ?_
  rintro r w2 ⟨v', row', rfl, h2, h3, _⟩
  go_wp2
  go_ret
  exact ⟨v', row', rfl, h2, h3⟩

theorem refputint_v (v : Value) (z : Int) (l : List UInt8) (S : Nat → Prop) (w : World) (hv : Bytes S w v l) (hn : l.length ≤ 10000000000) (hz : InR z) :
    Calls Try.prog 13 #[v, .int .i64 z] w fun e w' => ∃ v', e = .returned v' ∧ Bytes (fun _ => True) w' v' (l ++ encI z) ∧ Below w.heap.size w w' := by
  obtain ⟨A, c, rfl, h1, h2, h3⟩ := hv
  refine (refputint_any A l.length c z l S w ⟨A, c, rfl, h1, h2, h3⟩ hn hz.1 hz.2).mono ?_
  rintro e w' ⟨A', c', rfl, ho, hb⟩
  exact ⟨_, rfl, ho.bytes.mono (fun _ _ _ => trivial), hb⟩
/-- the document's ints -/
theorem byt_slice {w : World} {v : Value} {l : List UInt8} {S : Nat → Prop} (h : Bytes S w v l) : ∃ A c, v = .slice A l.length c := by
  obtain ⟨A, c, e, _⟩ := h
  exact ⟨A, c, e⟩
set_option maxHeartbeats 1000000 in
theorem refints_any (v : Value) (l : List UInt8) (S : Nat → Prop) (w : World) (hv : Bytes S w v l) (Au : Option Addr) (nu cu : Nat) (zs : List Int) (Su : Nat → Prop) (hu : Recs encZ Su w (.slice Au nu cu) zs) (hz : ∀ z ∈ zs, InR z) (hlen : l.length + 10 * nu ≤ 10000000000) :
    Calls Try.prog 33 #[v, .slice Au nu cu] w fun e w' => ∃ v', e = .returned v' ∧ Bytes (fun _ => True) w' v' (l ++ encs zs) ∧ Below w.heap.size w w' := by
  have hul := hu.len
  have HZ := Lib.hid hz
  have HUL := Lib.hid hul.1
  clear hz
  go_enter Try.func33, Try.ntmps33
  go_wp2
  go_loopw [0, 5] (fun v i wr => ∃ (k : Nat), i = .int .i64 k ∧ k ≤ nu ∧ Bytes (fun _ => True) wr v (l ++ encs (zs.take k)) ∧ (l ++ encs (zs.take k)).length ≤ l.length + 10 * k ∧ Below w.heap.size w wr) (fun _ i _ => nu - (intOf i).toNat)
  case atStart =>
    refine ⟨0, rfl, by omega, ?_, by simp [encs], Below.refl _ _⟩
    simpa [encs] using hv.mono (fun _ _ _ => trivial)
  case round =>
    obtain ⟨k, rfl, hk, hby, hll, hbr⟩ := hrel
    by_cases hlt : k < nu
    · obtain ⟨b, off, z, rfl, _, hbl, hzk, hc⟩ := (hu.ext hbr).at_ encZ_len (j := k) (by have := HUL.out; omega) (by omega)
      have qz := hc 0 _ rfl
      rw [Nat.mul_one, Nat.add_zero] at qz
      have hzr := HZ.out z (List.mem_of_getElem? hzk)
      have htk : zs.take (k + 1) = zs.take k ++ [z] := by rw [List.take_add_one, hzk]; rfl
      have htk' : l ++ encs (zs.take (k + 1)) = (l ++ encs (zs.take k)) ++ encI z := by rw [htk]; simp [encs]
      have HTK := Lib.hid htk'
      have hil := encI_len hzr.1 hzr.2
      generalize l ++ encs (zs.take k) = lk at *
      clear hc htk htk' hzk
      go_wp2_with fail
      refine (refputint_v _ z lk _ wr hby (by omega) hzr).mono ?_
      rintro e w2 ⟨v2, rfl, ho2, hb2⟩
      have hl2 : (l ++ encs (zs.take (k + 1))).length = lk.length + (encI z).length := by rw [HTK.out]; simp
      go_wp2
      go_roundw
      case rel => exact ⟨k + 1, by go_num, by omega, by rw [HTK.out]; exact ho2, by omega, Below.ext hbr hb2⟩
      case measure => simp [intOf]; omega
    · obtain rfl : k = nu := by omega
      rw [List.take_of_length_le (by have := HUL.out; omega)] at hby
      go_wp2
      go_ret
      exact ⟨_, rfl, hby, hbr⟩

set_option maxHeartbeats 1000000 in
theorem refputEvent_any (v : Value) (l : List UInt8) (S : Nat → Prop) (w : World) (hv : Bytes S w v l) (e : Ev) (hz : ∀ z ∈ e.l, InR z) (hlen : l.length ≤ 1000000000) :
    Calls Try.prog 15 #[v, evV e] w fun r w' => ∃ v', r = .returned v' ∧ Bytes (fun _ => True) w' v' (l ++ encs e.l) ∧ Below w.heap.size w w' := by
  obtain ⟨W, hW⟩ : ∃ W, W = (w.alloc (.cells #[.int .i64 e.k0, .int .i64 e.k1, .int .i64 e.k2, .int .i64 e.k3, .int .i64 e.k4, .int .i64 e.k5, .int .i64 e.k6] 35)).alloc (.cells #[.int .i64 e.k0, .int .i64 e.k1, .int .i64 e.k2, .int .i64 e.k3, .int .i64 e.k4, .int .i64 e.k5, .int .i64 e.k6] 3) := ⟨_, rfl⟩
  have haW : Below w.heap.size w W := by rw [hW]; exact ((Below.refl _ _).alloc (Nat.le_refl _) _).alloc (by simp) _
  have hlit := litZ (w.alloc (.cells #[.int .i64 e.k0, .int .i64 e.k1, .int .i64 e.k2, .int .i64 e.k3, .int .i64 e.k4, .int .i64 e.k5, .int .i64 e.k6] 35)) 3 e.l #[.int .i64 e.k0, .int .i64 e.k1, .int .i64 e.k2, .int .i64 e.k3, .int .i64 e.k4, .int .i64 e.k5, .int .i64 e.k6] 7 rfl rfl (by omega)
  rw [World.size_alloc, ← hW] at hlit
  have hput := refints_any v l _ W (hv.ext haW) _ 7 7 e.l _ hlit hz (by omega)
  have Hput := Lib.hid hput
  clear hput hlit
  unfold evV
  go_enter Try.func15, Try.ntmps15
  go_wp2_with fail
  rw [← hW]
  refine Hput.out.mono ?_
  rintro r w2 ⟨v', rfl, h2, h3⟩
  go_wp2
  go_ret
  exact ⟨v', rfl, h2, Below.ext haW h3⟩
end Go.Proofs.Ytgjjfjibfleonaa
