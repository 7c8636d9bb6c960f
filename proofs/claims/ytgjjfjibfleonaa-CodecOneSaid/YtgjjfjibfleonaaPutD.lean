/-
  PutDet, PutPages of the document; PutDet of package codec.
-/
import Derived.Test.YtgjjfjibfleonaaPutP
namespace Go.Proofs.Ytgjjfjibfleonaa
open Go.RowKit
set_option maxRecDepth 100000
set_option linter.unusedVariables false

/-- a struct within a block -/
theorem run_ld_mid {P : Program} {w : World} {g o : Nat} {cs : Array Value} {t e : TypeId} {d : TypeDesc} (vs : List Value) (h : w.heap[g]? = some (.cells cs e (0, 0))) (hv : ∀ (j : Nat) v, vs[j]? = some v → cs[o + j]? = some v) (hu : P.underlying t = some d) (hd : d.isRow = true) (hi : (P.info? t).map (·.size) = some vs.length) :
    (loadVar t ⟨g, o, none⟩).run P w = .ok (.agg vs.toArray) w :=
  run_loadVar_mid (P := P) w g o t vs d (fun j v hj => by rw [cell_of_row _ _ _ _ _ _ h]; exact hv j v hj) hu hd hi
structure Dt where
  proc : Int
  index : Int
  ev : Ev
deriving DecidableEq, Inhabited
def Dt.l (d : Dt) : List Int := [d.proc, d.index] ++ d.ev.l
def encDt (d : Dt) : List Value := [.int .i64 d.proc, .int .i64 d.index, .int .i64 d.ev.k0, .int .i64 d.ev.k1, .int .i64 d.ev.k2, .int .i64 d.ev.k3, .int .i64 d.ev.k4, .int .i64 d.ev.k5, .int .i64 d.ev.k6]
theorem encDt_len (d : Dt) : (encDt d).length = 9 := rfl
def dtV (d : Dt) : Value := .agg #[.int .i64 d.proc, .int .i64 d.index, .int .i64 d.ev.k0, .int .i64 d.ev.k1, .int .i64 d.ev.k2, .int .i64 d.ev.k3, .int .i64 d.ev.k4, .int .i64 d.ev.k5, .int .i64 d.ev.k6]
theorem ag_int : ∀ w : World, (isAgg 3).run Try.prog w = .ok false w := fun w => by simp [isAgg, run_underlying Try.underlying3]
theorem ag_ints : ∀ w : World, (isAgg 25).run Try.prog w = .ok false w := fun w => by simp [isAgg, run_underlying Try.underlying25]
theorem row_cell {w : World} {g : Nat} {cs : Array Value} {e : TypeId} (h : w.heap[g]? = some (.cells cs e (0, 0))) (o : Nat) (v : Value) (hv : cs[o]? = some v) : w.cell? ⟨g, o, none⟩ = some v := by rw [cell_of_row _ _ _ _ _ _ h]; exact hv
theorem get7 {a0 a1 a2 a3 a4 a5 a6 x y : Value} : ∀ (j : Nat) v, [a0, a1, a2, a3, a4, a5, a6][j]? = some v → #[x, y, a0, a1, a2, a3, a4, a5, a6][2 + j]? = some v
  | 0, _, h => h | 1, _, h => h | 2, _, h => h | 3, _, h => h | 4, _, h => h | 5, _, h => h | 6, _, h => h
  | j + 7, v, h => by simp at h

set_option maxHeartbeats 2000000 in
theorem putDet_any (A : Option Addr) (n c : Nat) (l : List UInt8) (S : Nat → Prop) (w : World) (hv : Bytes S w (.slice A n c) l) (d : Dt) (hz : ∀ z ∈ d.l, InR z) (hlen : n ≤ 1000000000) :
    Calls Try.prog 16 #[.slice A n c, dtV d] w fun r w' => ∃ v', r = .returned v' ∧ Bytes (fun _ => True) w' v' (l ++ encs d.l) ∧ Below w.heap.size w w' := by
  have hl := hv.len
  have HL := Lib.hid hl.1
  obtain ⟨W, hW⟩ : ∃ W, W = w.alloc (.cells #[.int .i64 d.proc, .int .i64 d.index, .int .i64 d.ev.k0, .int .i64 d.ev.k1, .int .i64 d.ev.k2, .int .i64 d.ev.k3, .int .i64 d.ev.k4, .int .i64 d.ev.k5, .int .i64 d.ev.k6] 37) := ⟨_, rfl⟩
  have haW : Below w.heap.size w W := by rw [hW]; exact (Below.refl _ _).alloc (Nat.le_refl _) _
  have rW : W.heap[w.heap.size]? = some (.cells #[.int .i64 d.proc, .int .i64 d.index, .int .i64 d.ev.k0, .int .i64 d.ev.k1, .int .i64 d.ev.k2, .int .i64 d.ev.k3, .int .i64 d.ev.k4, .int .i64 d.ev.k5, .int .i64 d.ev.k6] 37 (0, 0)) := by rw [hW]; exact heap_alloc_new _ _
  have hsW : w.heap.size < W.heap.size := (Array.getElem?_eq_some_iff.1 rW).1
  have RW := Lib.hid rW
  have hz2 : ∀ z ∈ [d.proc, d.index], InR z := fun z hz' => hz z (by unfold Dt.l; simp at hz' ⊢; rcases hz' with h | h <;> simp [h])
  have hze : ∀ z ∈ d.ev.l, InR z := fun z hz' => hz z (by unfold Dt.l; simp [hz'])
  have ha2 : Below W.heap.size W (W.alloc (.cells #[.int .i64 d.proc, .int .i64 d.index] 3)).drew := ((Below.refl _ _).alloc (Nat.le_refl _) _).drew
  have hlit := avoid_none (litZ W 3 [d.proc, d.index] #[.int .i64 d.proc, .int .i64 d.index] 2 rfl rfl (by omega)).drew
  have hput := put_b W (W.alloc (.cells #[.int .i64 d.proc, .int .i64 d.index] 3)).drew none (.slice A n n) l ha2 (clip_acc (w0 := W) W.heap.size (hv.ext (Below.ext haW ha2)) (by omega)) _ 2 2 [d.proc, d.index] hlit hz2 (by have := HL.out; omega)
  have Hput := Lib.hid hput
  have hl2 := encs_len [d.proc, d.index] hz2
  have hfin : l ++ encs d.l = (l ++ encs [d.proc, d.index]) ++ encs d.ev.l := by unfold Dt.l; rw [encs_append, List.append_assoc]
  rw [hfin]
  clear rW hput hlit hfin hz
  unfold dtV
  go_enter Try.func16, Try.ntmps16
  go_wp2_with fail
  rw [← hW]
  clear hW
  refine wp_region_two (Below W.heap.size W) [0, 1, 2, 3, 4, 5, 6, 7, 8, 9, 10, 11] [0, 2, 3, 4, 5, 6, 1, 7, 8, 9, 10, 11] 1 6 (by kernel_rfl) (by kernel_rfl) (by kernel_rfl) (by kernel_rfl) (by decide) (by decide) (by decide) (by decide) ((Below.refl _ _).drew) ?_ ?_
  all_goals simp only [opsOf, List.filterMap_cons, List.filterMap_nil, List.getElem?_cons_zero, List.getElem?_cons_succ]
  · repeat (first | (refine lexL_q0 rfl ?_; go_big_quiet_step (fail); refine wpQuiet_nil ?_) | (refine lexL_skip0 rfl rfl ?_; simp only [Act.put, List.setIfInBounds_toArray, List.set_cons_succ, List.set_cons_zero]))
    refine lexL_e rfl ?_
    go_wp2_with fail
    refine (clip_any A n c W.drew hl.2.1 hl.2.2).mono ?_
    rintro r w1 ⟨rfl, rfl⟩
    go_wp2_with fail
    refine lexL_go ((Below.refl _ _).drew) ?_
    repeat (first | (refine lexL_q0 rfl ?_; go_big_quiet_step (fail); refine wpQuiet_nil ?_) | (refine lexL_skip0 rfl rfl ?_; simp only [Act.put, List.setIfInBounds_toArray, List.set_cons_succ, List.set_cons_zero]))
    refine lexL_ld (⟨w.heap.size, 0, none⟩) (.int .i64 d.proc) rfl rfl rfl (fun w' hS => run_ld1 (ag_int _) (row_cell ((hS.block _ hsW).trans RW.out) 0 _ rfl)) ?_
    simp only [Act.put, List.setIfInBounds_toArray, List.set_cons_succ, List.set_cons_zero]
    repeat (first | (refine lexL_q0 rfl ?_; go_big_quiet_step (fail); refine wpQuiet_nil ?_) | (refine lexL_skip0 rfl rfl ?_; simp only [Act.put, List.setIfInBounds_toArray, List.set_cons_succ, List.set_cons_zero]))
    refine lexL_ld (⟨w.heap.size, 1, none⟩) (.int .i64 d.index) rfl rfl rfl (fun w' hS => run_ld1 (ag_int _) (row_cell ((hS.block _ hsW).trans RW.out) 1 _ rfl)) ?_
    simp only [Act.put, List.setIfInBounds_toArray, List.set_cons_succ, List.set_cons_zero]
    repeat (first | (refine lexL_q0 rfl ?_; go_big_quiet_step (fail); refine wpQuiet_nil ?_) | (refine lexL_skip0 rfl rfl ?_; simp only [Act.put, List.setIfInBounds_toArray, List.set_cons_succ, List.set_cons_zero]))
    refine lexL_e rfl ?_
    go_wp2_with fail
    refine lexL_go ha2 ?_
    repeat (first | (refine lexL_q0 rfl ?_; go_big_quiet_step (fail); refine wpQuiet_nil ?_) | (refine lexL_skip0 rfl rfl ?_; simp only [Act.put, List.setIfInBounds_toArray, List.set_cons_succ, List.set_cons_zero]))
    refine lexL_e rfl ?_
    go_wp2_with fail
    refine Hput.out.mono ?_
    rintro r w2 ⟨v2, row2, rfl, hacc2, hb2, _⟩
    go_wp2_with fail
    refine lexL_go (hb2) ?_
    repeat (first | (refine lexL_q0 rfl ?_; go_big_quiet_step (fail); refine wpQuiet_nil ?_) | (refine lexL_skip0 rfl rfl ?_; simp only [Act.put, List.setIfInBounds_toArray, List.set_cons_succ, List.set_cons_zero]))
    refine lexL_ld (⟨w.heap.size, 2, none⟩) (.agg #[.int .i64 d.ev.k0, .int .i64 d.ev.k1, .int .i64 d.ev.k2, .int .i64 d.ev.k3, .int .i64 d.ev.k4, .int .i64 d.ev.k5, .int .i64 d.ev.k6]) rfl rfl rfl (fun w' hS => run_ld_mid (o := 2) [.int .i64 d.ev.k0, .int .i64 d.ev.k1, .int .i64 d.ev.k2, .int .i64 d.ev.k3, .int .i64 d.ev.k4, .int .i64 d.ev.k5, .int .i64 d.ev.k6] ((hS.block _ hsW).trans RW.out) get7 Try.underlying35 rfl (by kernel_rfl)) ?_
    simp only [Act.put, List.setIfInBounds_toArray, List.set_cons_succ, List.set_cons_zero]
    repeat (first | (refine lexL_q0 rfl ?_; go_big_quiet_step (fail); refine wpQuiet_nil ?_) | (refine lexL_skip0 rfl rfl ?_; simp only [Act.put, List.setIfInBounds_toArray, List.set_cons_succ, List.set_cons_zero]))
    refine lexL_e rfl ?_
    go_wp2_with fail
    have hpe := putEvent_b W w2 row2 v2 _ hb2 hacc2 d.ev hze (by rw [List.length_append]; have := HL.out; simp at hl2; omega)
    unfold evV at hpe
    refine hpe.mono ?_
    rintro r w3 ⟨v3, row3, rfl, hacc3, hb3⟩
    go_wp2_with fail
    refine lexL_go (hb3) ?_
    repeat (first | (refine lexL_q0 rfl ?_; go_big_quiet_step (fail); refine wpQuiet_nil ?_) | (refine lexL_skip0 rfl rfl ?_; simp only [Act.put, List.setIfInBounds_toArray, List.set_cons_succ, List.set_cons_zero]))
    refine lexL_nil ?_
    go_wp2_with fail
    go_wp2
    go_ret
    exact ⟨v3, rfl, hacc3.bytes, Below.ext haW hb3⟩
  · repeat (first | (refine lexL_q0 rfl ?_; go_big_quiet_step (fail); refine wpQuiet_nil ?_) | (refine lexL_skip0 rfl rfl ?_; simp only [Act.put, List.setIfInBounds_toArray, List.set_cons_succ, List.set_cons_zero]))
    refine lexL_ld (⟨w.heap.size, 0, none⟩) (.int .i64 d.proc) rfl rfl rfl (fun w' hS => run_ld1 (ag_int _) (row_cell ((hS.block _ hsW).trans RW.out) 0 _ rfl)) ?_
    simp only [Act.put, List.setIfInBounds_toArray, List.set_cons_succ, List.set_cons_zero]
    repeat (first | (refine lexL_q0 rfl ?_; go_big_quiet_step (fail); refine wpQuiet_nil ?_) | (refine lexL_skip0 rfl rfl ?_; simp only [Act.put, List.setIfInBounds_toArray, List.set_cons_succ, List.set_cons_zero]))
    refine lexL_ld (⟨w.heap.size, 1, none⟩) (.int .i64 d.index) rfl rfl rfl (fun w' hS => run_ld1 (ag_int _) (row_cell ((hS.block _ hsW).trans RW.out) 1 _ rfl)) ?_
    simp only [Act.put, List.setIfInBounds_toArray, List.set_cons_succ, List.set_cons_zero]
    repeat (first | (refine lexL_q0 rfl ?_; go_big_quiet_step (fail); refine wpQuiet_nil ?_) | (refine lexL_skip0 rfl rfl ?_; simp only [Act.put, List.setIfInBounds_toArray, List.set_cons_succ, List.set_cons_zero]))
    refine lexL_e rfl ?_
    go_wp2_with fail
    refine lexL_go ha2 ?_
    repeat (first | (refine lexL_q0 rfl ?_; go_big_quiet_step (fail); refine wpQuiet_nil ?_) | (refine lexL_skip0 rfl rfl ?_; simp only [Act.put, List.setIfInBounds_toArray, List.set_cons_succ, List.set_cons_zero]))
    refine lexL_e rfl ?_
    go_wp2_with fail
    refine (clip_any A n c (W.alloc (.cells #[.int .i64 d.proc, .int .i64 d.index] 3)).drew hl.2.1 hl.2.2).mono ?_
    rintro r w1 ⟨rfl, rfl⟩
    go_wp2_with fail
    refine lexL_go (ha2) ?_
    repeat (first | (refine lexL_q0 rfl ?_; go_big_quiet_step (fail); refine wpQuiet_nil ?_) | (refine lexL_skip0 rfl rfl ?_; simp only [Act.put, List.setIfInBounds_toArray, List.set_cons_succ, List.set_cons_zero]))
    refine lexL_e rfl ?_
    go_wp2_with fail
    refine Hput.out.mono ?_
    rintro r w2 ⟨v2, row2, rfl, hacc2, hb2, _⟩
    go_wp2_with fail
    refine lexL_go (hb2) ?_
    repeat (first | (refine lexL_q0 rfl ?_; go_big_quiet_step (fail); refine wpQuiet_nil ?_) | (refine lexL_skip0 rfl rfl ?_; simp only [Act.put, List.setIfInBounds_toArray, List.set_cons_succ, List.set_cons_zero]))
    refine lexL_ld (⟨w.heap.size, 2, none⟩) (.agg #[.int .i64 d.ev.k0, .int .i64 d.ev.k1, .int .i64 d.ev.k2, .int .i64 d.ev.k3, .int .i64 d.ev.k4, .int .i64 d.ev.k5, .int .i64 d.ev.k6]) rfl rfl rfl (fun w' hS => run_ld_mid (o := 2) [.int .i64 d.ev.k0, .int .i64 d.ev.k1, .int .i64 d.ev.k2, .int .i64 d.ev.k3, .int .i64 d.ev.k4, .int .i64 d.ev.k5, .int .i64 d.ev.k6] ((hS.block _ hsW).trans RW.out) get7 Try.underlying35 rfl (by kernel_rfl)) ?_
    simp only [Act.put, List.setIfInBounds_toArray, List.set_cons_succ, List.set_cons_zero]
    repeat (first | (refine lexL_q0 rfl ?_; go_big_quiet_step (fail); refine wpQuiet_nil ?_) | (refine lexL_skip0 rfl rfl ?_; simp only [Act.put, List.setIfInBounds_toArray, List.set_cons_succ, List.set_cons_zero]))
    refine lexL_e rfl ?_
    go_wp2_with fail
    have hpe := putEvent_b W w2 row2 v2 _ hb2 hacc2 d.ev hze (by rw [List.length_append]; have := HL.out; simp at hl2; omega)
    unfold evV at hpe
    refine hpe.mono ?_
    rintro r w3 ⟨v3, row3, rfl, hacc3, hb3⟩
    go_wp2_with fail
    refine lexL_go (hb3) ?_
    repeat (first | (refine lexL_q0 rfl ?_; go_big_quiet_step (fail); refine wpQuiet_nil ?_) | (refine lexL_skip0 rfl rfl ?_; simp only [Act.put, List.setIfInBounds_toArray, List.set_cons_succ, List.set_cons_zero]))
    refine lexL_nil ?_
    go_wp2_with fail
    go_wp2
    go_ret
    exact ⟨v3, rfl, hacc3.bytes, Below.ext haW hb3⟩

set_option maxHeartbeats 2000000 in
theorem refputDet_any (v : Value) (l : List UInt8) (S : Nat → Prop) (w : World) (hv : Bytes S w v l) (d : Dt) (hz : ∀ z ∈ d.l, InR z) (hlen : l.length ≤ 100000000) :
    Calls Try.prog 17 #[v, dtV d] w fun r w' => ∃ v', r = .returned v' ∧ Bytes (fun _ => True) w' v' (l ++ encs d.l) ∧ Below w.heap.size w w' := by
  obtain ⟨W, hW⟩ : ∃ W, W = w.alloc (.cells #[.int .i64 d.proc, .int .i64 d.index, .int .i64 d.ev.k0, .int .i64 d.ev.k1, .int .i64 d.ev.k2, .int .i64 d.ev.k3, .int .i64 d.ev.k4, .int .i64 d.ev.k5, .int .i64 d.ev.k6] 37) := ⟨_, rfl⟩
  have haW : Below w.heap.size w W := by rw [hW]; exact (Below.refl _ _).alloc (Nat.le_refl _) _
  have rW : W.heap[w.heap.size]? = some (.cells #[.int .i64 d.proc, .int .i64 d.index, .int .i64 d.ev.k0, .int .i64 d.ev.k1, .int .i64 d.ev.k2, .int .i64 d.ev.k3, .int .i64 d.ev.k4, .int .i64 d.ev.k5, .int .i64 d.ev.k6] 37 (0, 0)) := by rw [hW]; exact heap_alloc_new _ _
  have hsW : w.heap.size < W.heap.size := (Array.getElem?_eq_some_iff.1 rW).1
  have RW := Lib.hid rW
  have hz2 : ∀ z ∈ [d.proc, d.index], InR z := fun z hz' => hz z (by unfold Dt.l; simp at hz' ⊢; rcases hz' with h | h <;> simp [h])
  have hze : ∀ z ∈ d.ev.l, InR z := fun z hz' => hz z (by unfold Dt.l; simp [hz'])
  have ha2 : Below W.heap.size W (W.alloc (.cells #[.int .i64 d.proc, .int .i64 d.index] 3)).drew := ((Below.refl _ _).alloc (Nat.le_refl _) _).drew
  have hlit := (litZ W 3 [d.proc, d.index] #[.int .i64 d.proc, .int .i64 d.index] 2 rfl rfl (by omega)).drew
  have hput := refints_any v l _ (W.alloc (.cells #[.int .i64 d.proc, .int .i64 d.index] 3)).drew (hv.ext (Below.ext haW ha2)) _ 2 2 [d.proc, d.index] _ hlit hz2 (by omega)
  have Hput := Lib.hid hput
  have hl2 := encs_len [d.proc, d.index] hz2
  have hfin : l ++ encs d.l = (l ++ encs [d.proc, d.index]) ++ encs d.ev.l := by unfold Dt.l; rw [encs_append, List.append_assoc]
  rw [hfin]
  clear rW hput hlit hfin hz
  unfold dtV
  go_enter Try.func17, Try.ntmps17
  go_wp2_with fail
  rw [← hW]
  clear hW
  refine wp_region_lexL (Below W.heap.size W) (by kernel_rfl) (by kernel_rfl) ((Below.refl _ _).drew) ?_
  repeat (first | (refine lexL_q0 rfl ?_; go_big_quiet_step (fail); refine wpQuiet_nil ?_) | (refine lexL_skip0 rfl rfl ?_; simp only [Act.put, List.setIfInBounds_toArray, List.set_cons_succ, List.set_cons_zero]))
  refine lexL_ld (⟨w.heap.size, 0, none⟩) (.int .i64 d.proc) rfl rfl rfl (fun w' hS => run_ld1 (ag_int _) (row_cell ((hS.block _ hsW).trans RW.out) 0 _ rfl)) ?_
  simp only [Act.put, List.setIfInBounds_toArray, List.set_cons_succ, List.set_cons_zero]
  repeat (first | (refine lexL_q0 rfl ?_; go_big_quiet_step (fail); refine wpQuiet_nil ?_) | (refine lexL_skip0 rfl rfl ?_; simp only [Act.put, List.setIfInBounds_toArray, List.set_cons_succ, List.set_cons_zero]))
  refine lexL_ld (⟨w.heap.size, 1, none⟩) (.int .i64 d.index) rfl rfl rfl (fun w' hS => run_ld1 (ag_int _) (row_cell ((hS.block _ hsW).trans RW.out) 1 _ rfl)) ?_
  simp only [Act.put, List.setIfInBounds_toArray, List.set_cons_succ, List.set_cons_zero]
  repeat (first | (refine lexL_q0 rfl ?_; go_big_quiet_step (fail); refine wpQuiet_nil ?_) | (refine lexL_skip0 rfl rfl ?_; simp only [Act.put, List.setIfInBounds_toArray, List.set_cons_succ, List.set_cons_zero]))
  refine lexL_e rfl ?_
  go_wp2_with fail
  refine lexL_go ha2 ?_
  repeat (first | (refine lexL_q0 rfl ?_; go_big_quiet_step (fail); refine wpQuiet_nil ?_) | (refine lexL_skip0 rfl rfl ?_; simp only [Act.put, List.setIfInBounds_toArray, List.set_cons_succ, List.set_cons_zero]))
  refine lexL_e rfl ?_
  go_wp2_with fail
  refine Hput.out.mono ?_
  rintro r w2 ⟨v2, rfl, hby2, hb2⟩
  have b2 := Below.ext ha2 hb2
  go_wp2_with fail
  refine lexL_go (b2) ?_
  repeat (first | (refine lexL_q0 rfl ?_; go_big_quiet_step (fail); refine wpQuiet_nil ?_) | (refine lexL_skip0 rfl rfl ?_; simp only [Act.put, List.setIfInBounds_toArray, List.set_cons_succ, List.set_cons_zero]))
  refine lexL_ld (⟨w.heap.size, 2, none⟩) (.agg #[.int .i64 d.ev.k0, .int .i64 d.ev.k1, .int .i64 d.ev.k2, .int .i64 d.ev.k3, .int .i64 d.ev.k4, .int .i64 d.ev.k5, .int .i64 d.ev.k6]) rfl rfl rfl (fun w' hS => run_ld_mid (o := 2) [.int .i64 d.ev.k0, .int .i64 d.ev.k1, .int .i64 d.ev.k2, .int .i64 d.ev.k3, .int .i64 d.ev.k4, .int .i64 d.ev.k5, .int .i64 d.ev.k6] ((hS.block _ hsW).trans RW.out) get7 Try.underlying35 rfl (by kernel_rfl)) ?_
  simp only [Act.put, List.setIfInBounds_toArray, List.set_cons_succ, List.set_cons_zero]
  repeat (first | (refine lexL_q0 rfl ?_; go_big_quiet_step (fail); refine wpQuiet_nil ?_) | (refine lexL_skip0 rfl rfl ?_; simp only [Act.put, List.setIfInBounds_toArray, List.set_cons_succ, List.set_cons_zero]))
  refine lexL_e rfl ?_
  go_wp2_with fail
  have hpe := refputEvent_any v2 _ _ w2 hby2 d.ev hze (by rw [List.length_append]; simp at hl2; omega)
  unfold evV at hpe
  refine hpe.mono ?_
  rintro r w3 ⟨v3, rfl, hby3, hb3⟩
  have b3 := Below.ext b2 hb3
  go_wp2_with fail
  refine lexL_go (b3) ?_
  repeat (first | (refine lexL_q0 rfl ?_; go_big_quiet_step (fail); refine wpQuiet_nil ?_) | (refine lexL_skip0 rfl rfl ?_; simp only [Act.put, List.setIfInBounds_toArray, List.set_cons_succ, List.set_cons_zero]))
  refine lexL_nil ?_
  go_wp2_with fail
  go_wp2
  go_ret
  exact ⟨v3, rfl, hby3, Below.ext haW b3⟩

set_option maxHeartbeats 2000000 in
theorem refputPages_any (v : Value) (l : List UInt8) (S : Nat → Prop) (w : World) (hv : Bytes S w v l) (Ap : Option Addr) (np cp : Nat) (ps : List Pg) (hP : Pgs (· < w.heap.size) w (.slice Ap np cp) ps) (hok : ∀ p ∈ ps, PgOk p) (hlen : l.length ≤ 1000000) (hnp : np ≤ 100) :
    Calls Try.prog 19 #[v, .slice Ap np cp] w fun r w' => ∃ v', r = .returned v' ∧ Bytes (fun _ => True) w' v' (l ++ encs (pgL ps)) ∧ Below w.heap.size w w' := by
  have hpl := hP.len
  have HPL := Lib.hid hpl.1
  have hpl2 := hpl.2
  have HOK := Lib.hid hok
  clear hok hpl
  go_enter Try.func19, Try.ntmps19
  go_wp2_with fail
  refine (refputint_v v (np : Int) l S w hv (by omega) ⟨by omega, by omega⟩).mono ?_
  rintro e w2 ⟨v2, rfl, hby2, hb2⟩
  go_wp2
  have hi2 := encI_len (v := (np : Int)) (by omega) (by omega)
  have he1 : l ++ encI (np : Int) = l ++ encs ([(np : Int)] ++ (ps.take 0).flatMap Pg.l) := by simp [encs]
  go_loopw [0, 5] (fun v i wr => ∃ (k : Nat), i = .int .i64 k ∧ k ≤ np ∧ Bytes (fun _ => True) wr v (l ++ encs ([(np : Int)] ++ (ps.take k).flatMap Pg.l)) ∧ (l ++ encs ([(np : Int)] ++ (ps.take k).flatMap Pg.l)).length ≤ l.length + 10 + k * 30000000 ∧ Below w.heap.size w wr) (fun _ i _ => np - (intOf i).toNat)
  case atStart => exact ⟨0, rfl, by omega, by rw [← he1]; exact hby2, by rw [← he1, List.length_append]; omega, hb2⟩
  case round =>
    clear hby2 hb2 he1
    obtain ⟨k, rfl, hk, hby, hll, hbr⟩ := hrel
    by_cases hlt : k < np
    · obtain ⟨b, off, x, p, rfl, hbS, hbl, hpk, hnum, hcs, c0, c1⟩ := (hP.ext hbr).at_ hlt
      have hpo := HOK.out p (List.mem_of_getElem? hpk)
      have hfl := flat_tk Pg.l ps k p hpk
      have hcl := hcs.len
      have HCL := Lib.hid hcl.1
      obtain ⟨lk, hlk⟩ : ∃ lk, lk = l ++ encs ([(np : Int)] ++ (ps.take k).flatMap Pg.l) := ⟨_, rfl⟩
      have htgt : l ++ encs ([(np : Int)] ++ (ps.take (k + 1)).flatMap Pg.l) = lk ++ encs [p.num, (p.cells.length : Int)] ++ encs p.cells := by
        rw [hfl, hlk, show Pg.l p = [p.num, (p.cells.length : Int)] ++ p.cells from rfl]
        simp only [encs_append, List.append_assoc]
      have HTG := Lib.hid htgt
      rw [← hlk] at hby hll
      have hsz := hbr.size
      have Hnum := Lib.hid hnum
      have C0 := Lib.hid c0
      have C1 := Lib.hid c1
      clear hpk hfl htgt hlk hnum c0 c1
      have ha3 : Below wr.heap.size wr (wr.alloc (.cells #[.int .i64 x.num, .int .i64 (x.n : Int)] 3)).drew := ((Below.refl _ _).alloc (Nat.le_refl _) _).drew
      have hlit := (litZ wr 3 [x.num, (x.n : Int)] #[.int .i64 x.num, .int .i64 (x.n : Int)] 2 rfl rfl (by omega)).drew
      have hrng : ∀ z ∈ [x.num, (x.n : Int)], InR z := by
        intro z hz
        simp at hz
        rcases hz with rfl | rfl
        · rw [Hnum.out]; exact hpo.1
        · exact ⟨by omega, by omega⟩
      have hput := refints_any _ lk _ (wr.alloc (.cells #[.int .i64 x.num, .int .i64 (x.n : Int)] 3)).drew (hby.ext ha3) _ 2 2 _ _ hlit hrng (by omega)
      have Hput2 := Lib.hid hput
      have HlL := encs_len _ hrng
      clear hput hlit
      have hcel : ∀ (w' : World) (q : Addr), Below wr.heap.size wr w' → q.block < wr.heap.size → w'.cell? q = wr.cell? q := fun w' q h hq => h.cell hq
      have HC := Lib.hid hcel
      clear hcel
      go_wp2_with fail
      refine wp_region_lexL (Below wr.heap.size wr) (by kernel_rfl) (by kernel_rfl) ((Below.refl _ _).drew) ?_
      repeat (first | (refine lexL_q0 rfl ?_; go_big_quiet_step (fail); refine wpQuiet_nil ?_) | (refine lexL_skip0 rfl rfl ?_; simp only [Act.put, List.setIfInBounds_toArray, List.set_cons_succ, List.set_cons_zero]))
      refine lexL_ld (⟨b, off + k * 2, none⟩) (.int .i64 x.num) rfl rfl rfl (fun w' hS => run_ld1 (ag_int _) ((HC.out w' ⟨b, off + k * 2, none⟩ hS hbl).trans C0.out)) ?_
      simp only [Act.put, List.setIfInBounds_toArray, List.set_cons_succ, List.set_cons_zero]
      repeat (first | (refine lexL_q0 rfl ?_; go_big_quiet_step (fail); refine wpQuiet_nil ?_) | (refine lexL_skip0 rfl rfl ?_; simp only [Act.put, List.setIfInBounds_toArray, List.set_cons_succ, List.set_cons_zero]))
      refine lexL_ld (⟨b, off + k * 2 + 1, none⟩) (.slice x.A x.n x.c) rfl rfl rfl (fun w' hS => run_ld1 (ag_ints _) ((HC.out w' ⟨b, off + k * 2 + 1, none⟩ hS hbl).trans C1.out)) ?_
      simp only [Act.put, List.setIfInBounds_toArray, List.set_cons_succ, List.set_cons_zero]
      repeat (first | (refine lexL_q0 rfl ?_; go_big_quiet_step (fail); refine wpQuiet_nil ?_) | (refine lexL_skip0 rfl rfl ?_; simp only [Act.put, List.setIfInBounds_toArray, List.set_cons_succ, List.set_cons_zero]))
      refine lexL_e rfl ?_
      go_wp2_with fail
      refine lexL_go ha3 ?_
      repeat (first | (refine lexL_q0 rfl ?_; go_big_quiet_step (fail); refine wpQuiet_nil ?_) | (refine lexL_skip0 rfl rfl ?_; simp only [Act.put, List.setIfInBounds_toArray, List.set_cons_succ, List.set_cons_zero]))
      refine lexL_e rfl ?_
      go_wp2_with fail
      refine Hput2.out.mono ?_
      rintro r w5 ⟨v5, rfl, hby5, hb5⟩
      have b5 := Below.ext ha3 hb5
      go_wp2_with fail
      refine lexL_go (b5) ?_
      repeat (first | (refine lexL_q0 rfl ?_; go_big_quiet_step (fail); refine wpQuiet_nil ?_) | (refine lexL_skip0 rfl rfl ?_; simp only [Act.put, List.setIfInBounds_toArray, List.set_cons_succ, List.set_cons_zero]))
      refine lexL_ld (⟨b, off + k * 2 + 1, none⟩) (.slice x.A x.n x.c) rfl rfl rfl (fun w' hS => run_ld1 (ag_ints _) ((HC.out w' ⟨b, off + k * 2 + 1, none⟩ hS hbl).trans C1.out)) ?_
      simp only [Act.put, List.setIfInBounds_toArray, List.set_cons_succ, List.set_cons_zero]
      repeat (first | (refine lexL_q0 rfl ?_; go_big_quiet_step (fail); refine wpQuiet_nil ?_) | (refine lexL_skip0 rfl rfl ?_; simp only [Act.put, List.setIfInBounds_toArray, List.set_cons_succ, List.set_cons_zero]))
      refine lexL_e rfl ?_
      go_wp2_with fail
      refine (refints_any v5 _ _ w5 hby5 x.A x.n x.c p.cells _ (hcs.ext b5) hpo.2.1 (by have := hpo.2.2; have := HCL.out; rw [List.length_append]; simp at HlL; omega)).mono ?_
      rintro r w6 ⟨v6, rfl, hby6, hb6⟩
      have b6 := Below.ext b5 hb6
      go_wp2_with fail
      refine lexL_go (b6) ?_
      repeat (first | (refine lexL_q0 rfl ?_; go_big_quiet_step (fail); refine wpQuiet_nil ?_) | (refine lexL_skip0 rfl rfl ?_; simp only [Act.put, List.setIfInBounds_toArray, List.set_cons_succ, List.set_cons_zero]))
      refine lexL_nil ?_
      go_wp2_with fail
      have hel := encs_len p.cells hpo.2.1
      have hn1 : [x.num, (x.n : Int)] = [p.num, (p.cells.length : Int)] := by rw [Hnum.out, HCL.out]
      rw [hn1, ← HTG.out] at hby6
      have hln : (l ++ encs ([(np : Int)] ++ (ps.take (k + 1)).flatMap Pg.l)).length ≤ l.length + 10 + (k + 1) * 30000000 := by
        rw [HTG.out, List.length_append, List.length_append, ← hn1]
        have := hpo.2.2
        simp at HlL
        omega
      go_wp2
      go_roundw
      case rel => exact ⟨k + 1, by go_num, by omega, hby6, hln, Below.ext hbr b6⟩
      case measure => simp [intOf]; omega
    · obtain rfl : k = np := by omega
      rw [List.take_of_length_le (by have := HPL.out; omega)] at hby
      have hfin : l ++ encs ([(k : Int)] ++ ps.flatMap Pg.l) = l ++ encs (pgL ps) := by unfold pgL; rw [HPL.out]
      rw [hfin] at hby
      go_wp2
      go_ret
      exact ⟨_, rfl, hby, hbr⟩
end Go.Proofs.Ytgjjfjibfleonaa
