/-
  The document's PutDet makes a row of its own.
-/
import Derived.Test.YtjcfnpmgklliiaaCodecB
namespace Go.Proofs.Ytjcfnpmgklliiaa
open Go.RowKit
set_option maxRecDepth 100000
set_option linter.unusedVariables false

theorem refputint_o (v : Value) (z : Int) (l : List UInt8) (S : Nat → Prop) (w : World) (hv : Bytes S w v l) (hn : l.length ≤ 10000000000) (hz : InR z) :
    Calls Try.prog 86 #[v, .int .i64 z] w fun e w' => ∃ v', e = .returned v' ∧ OwnB w' w.heap.size 5 v' (l ++ encI z) ∧ Below w.heap.size w w' := by
  obtain ⟨A, c, rfl, h1, h2, h3⟩ := hv
  refine (refputint_any A l.length c z l S w ⟨A, c, rfl, h1, h2, h3⟩ hn hz.1 hz.2).mono ?_
  rintro e w' ⟨A', c', rfl, ho, hb⟩
  exact ⟨_, rfl, ho, hb⟩
set_option maxHeartbeats 1000000 in
theorem refints_o (v : Value) (l : List UInt8) (S : Nat → Prop) (w : World) (hv : Bytes S w v l) (Au : Option Addr) (nu cu : Nat) (zs : List Int) (Su : Nat → Prop) (hu : Recs encZ Su w (.slice Au nu cu) zs) (hz : ∀ z ∈ zs, InR z) (hnu : 0 < nu) (hlen : l.length + 10 * nu ≤ 10000000000) :
    Calls Try.prog 57 #[v, .slice Au nu cu] w fun e w' => ∃ v', e = .returned v' ∧ OwnB w' w.heap.size 5 v' (l ++ encs zs) ∧ Below w.heap.size w w' := by
  have hul := hu.len
  have HZ := Lib.hid hz
  have HUL := Lib.hid hul.1
  clear hz
  go_enter Try.func57, Try.ntmps57
  go_wp2
  go_loopw [0, 5] (fun v i wr => ∃ (k : Nat), i = .int .i64 k ∧ k ≤ nu ∧ Bytes (fun _ => True) wr v (l ++ encs (zs.take k)) ∧ (l ++ encs (zs.take k)).length ≤ l.length + 10 * k ∧ Below w.heap.size w wr ∧ (0 < k → OwnB wr w.heap.size 5 v (l ++ encs (zs.take k)))) (fun _ i _ => nu - (intOf i).toNat)
  case atStart =>
    refine ⟨0, rfl, by omega, ?_, by simp [encs], Below.refl _ _, fun h => absurd h (by omega)⟩
    simpa [encs] using hv.mono (fun _ _ _ => trivial)
  case round =>
    obtain ⟨k, rfl, hk, hby, hll, hbr, hoo⟩ := hrel
    have HOO := Lib.hid hoo
    clear hoo
    by_cases hlt : k < nu
    · obtain ⟨b, off, z, rfl, _, hbl, hzk, hc⟩ := (hu.ext hbr).at_ encZ_len (j := k) (by have := HUL.out; omega) (by omega)
      have qz := hc 0 _ rfl
      rw [Nat.mul_one, Nat.add_zero] at qz
      have hzr := HZ.out z (List.mem_of_getElem? hzk)
      have htk : zs.take (k + 1) = zs.take k ++ [z] := by rw [List.take_add_one, hzk]; rfl
      have htk' : l ++ encs (zs.take (k + 1)) = (l ++ encs (zs.take k)) ++ encI z := by rw [htk]; simp [encs]
      have HTK := Lib.hid htk'
      have hil := encI_len hzr.1 hzr.2
      generalize l ++ encs (zs.take k) = lk at *
      clear hc htk htk' hzk HOO
      go_wp2_with fail
      refine (refputint_o _ z lk _ wr hby (by omega) hzr).mono ?_
      rintro e w2 ⟨v2, rfl, ho2, hb2⟩
      have hl2 : (l ++ encs (zs.take (k + 1))).length = lk.length + (encI z).length := by rw [HTK.out]; simp
      go_wp2
      go_roundw
      case rel => exact ⟨k + 1, by go_num, by omega, by rw [HTK.out]; exact ho2.bytes.mono (fun _ _ _ => trivial), by omega, Below.ext hbr hb2, fun _ => by rw [HTK.out]; exact ho2.weak hbr.size⟩
      case measure => simp [intOf]; omega
    · obtain rfl : k = nu := by omega
      rw [List.take_of_length_le (by have := HUL.out; omega)] at hby
      go_wp2
      go_ret
      have hoo := HOO.out hnu
      rw [List.take_of_length_le (by have := HUL.out; omega)] at hoo
      exact ⟨_, rfl, hoo, hbr⟩

set_option maxHeartbeats 1000000 in
theorem refputEvent_o (v : Value) (l : List UInt8) (S : Nat → Prop) (w : World) (hv : Bytes S w v l) (e : Ev) (hz : ∀ z ∈ e.l, InR z) (hlen : l.length ≤ 1000000000) :
    Calls Try.prog 56 #[v, evV e] w fun r w' => ∃ v', r = .returned v' ∧ OwnB w' w.heap.size 5 v' (l ++ encs e.l) ∧ Below w.heap.size w w' := by
  obtain ⟨W, hW⟩ : ∃ W, W = (w.alloc (.cells #[.int .i64 e.k0, .int .i64 e.k1, .int .i64 e.k2, .int .i64 e.k3, .int .i64 e.k4, .int .i64 e.k5, .int .i64 e.k6] 36)).alloc (.cells #[.int .i64 e.k0, .int .i64 e.k1, .int .i64 e.k2, .int .i64 e.k3, .int .i64 e.k4, .int .i64 e.k5, .int .i64 e.k6] 3) := ⟨_, rfl⟩
  have haW : Below w.heap.size w W := by rw [hW]; exact ((Below.refl _ _).alloc (Nat.le_refl _) _).alloc (by simp) _
  have hlit := litZ (w.alloc (.cells #[.int .i64 e.k0, .int .i64 e.k1, .int .i64 e.k2, .int .i64 e.k3, .int .i64 e.k4, .int .i64 e.k5, .int .i64 e.k6] 36)) 3 e.l #[.int .i64 e.k0, .int .i64 e.k1, .int .i64 e.k2, .int .i64 e.k3, .int .i64 e.k4, .int .i64 e.k5, .int .i64 e.k6] 7 rfl rfl (by omega)
  rw [World.size_alloc, ← hW] at hlit
  have hput := refints_o v l _ W (hv.ext haW) _ 7 7 e.l _ hlit hz (by omega) (by omega)
  have Hput := Lib.hid hput
  clear hput hlit
  unfold evV
  go_enter Try.func56, Try.ntmps56
  go_wp2_with fail
  rw [← hW]
  refine Hput.out.mono ?_
  rintro r w2 ⟨v', rfl, h2, h3⟩
  go_wp2
  go_ret
  exact ⟨v', rfl, h2.weak haW.size, Below.ext haW h3⟩
set_option maxHeartbeats 2000000 in
theorem refputDet_o (v : Value) (l : List UInt8) (S : Nat → Prop) (w : World) (hv : Bytes S w v l) (d : Dt) (hz : ∀ z ∈ d.l, InR z) (hlen : l.length ≤ 100000000) :
    Calls Try.prog 18 #[v, dtV d] w fun r w' => ∃ v', r = .returned v' ∧ OwnB w' w.heap.size 5 v' (l ++ encs d.l) ∧ Below w.heap.size w w' := by
  obtain ⟨W, hW⟩ : ∃ W, W = w.alloc (.cells #[.int .i64 d.proc, .int .i64 d.index, .int .i64 d.ev.k0, .int .i64 d.ev.k1, .int .i64 d.ev.k2, .int .i64 d.ev.k3, .int .i64 d.ev.k4, .int .i64 d.ev.k5, .int .i64 d.ev.k6] 38) := ⟨_, rfl⟩
  have haW : Below w.heap.size w W := by rw [hW]; exact (Below.refl _ _).alloc (Nat.le_refl _) _
  have rW : W.heap[w.heap.size]? = some (.cells #[.int .i64 d.proc, .int .i64 d.index, .int .i64 d.ev.k0, .int .i64 d.ev.k1, .int .i64 d.ev.k2, .int .i64 d.ev.k3, .int .i64 d.ev.k4, .int .i64 d.ev.k5, .int .i64 d.ev.k6] 38 (0, 0)) := by rw [hW]; exact heap_alloc_new _ _
  have hsW : w.heap.size < W.heap.size := (Array.getElem?_eq_some_iff.1 rW).1
  have RW := Lib.hid rW
  have hz2 : ∀ z ∈ [d.proc, d.index], InR z := fun z hz' => hz z (by unfold Dt.l; simp at hz' ⊢; rcases hz' with h | h <;> simp [h])
  have hze : ∀ z ∈ d.ev.l, InR z := fun z hz' => hz z (by unfold Dt.l; simp [hz'])
  have ha2 : Below W.heap.size W (W.alloc (.cells #[.int .i64 d.proc, .int .i64 d.index] 3)).drew := ((Below.refl _ _).alloc (Nat.le_refl _) _).drew
  have hlit := (litZ W 3 [d.proc, d.index] #[.int .i64 d.proc, .int .i64 d.index] 2 rfl rfl (by omega)).drew
  have hput := refints_any v l _ (W.alloc (.cells #[.int .i64 d.proc, .int .i64 d.index] 3)).drew (hv.ext (Below.ext haW ha2)) _ 2 2 [d.proc, d.index] _ hlit hz2 (by omega)
  have Hput := Lib.hid hput
  have hl2 := encs_len [d.proc, d.index] hz2
  have hfin : l ++ encs d.l = (l ++ encs [d.proc, d.index]) ++ encs d.ev.l := by unfold Dt.l; rw [encs_append, List.append_assoc]
  rw [hfin]
  clear rW hput hlit hfin hz
  unfold dtV
  go_enter Try.func18, Try.ntmps18
  go_wp2_with fail
  rw [← hW]
  clear hW
  refine wp_region_lexL (Below W.heap.size W) (by kernel_rfl) (by kernel_rfl) ((Below.refl _ _).drew) ?_
  repeat (first | (refine lexL_q0 rfl ?_; go_big_quiet_step (fail); refine wpQuiet_nil ?_) | (refine lexL_skip0 rfl rfl ?_; simp only [Act.put, List.setIfInBounds_toArray, List.set_cons_succ, List.set_cons_zero]))
  refine lexL_ld (⟨w.heap.size, 0, none⟩) (.int .i64 d.proc) rfl rfl rfl (fun w' hS => run_ld1 (ag_int _) (row_cell ((hS.block _ hsW).trans RW.out) 0 _ rfl)) ?_
  simp only [Act.put, List.setIfInBounds_toArray, List.set_cons_succ, List.set_cons_zero]
  repeat (first | (refine lexL_q0 rfl ?_; go_big_quiet_step (fail); refine wpQuiet_nil ?_) | (refine lexL_skip0 rfl rfl ?_; simp only [Act.put, List.setIfInBounds_toArray, List.set_cons_succ, List.set_cons_zero]))
  refine lexL_ld (⟨w.heap.size, 1, none⟩) (.int .i64 d.index) rfl rfl rfl (fun w' hS => run_ld1 (ag_int _) (row_cell ((hS.block _ hsW).trans RW.out) 1 _ rfl)) ?_
  simp only [Act.put, List.setIfInBounds_toArray, List.set_cons_succ, List.set_cons_zero]
  repeat (first | (refine lexL_q0 rfl ?_; go_big_quiet_step (fail); refine wpQuiet_nil ?_) | (refine lexL_skip0 rfl rfl ?_; simp only [Act.put, List.setIfInBounds_toArray, List.set_cons_succ, List.set_cons_zero]))
  refine lexL_e rfl ?_
  go_wp2_with fail
  refine lexL_go ha2 ?_
  repeat (first | (refine lexL_q0 rfl ?_; go_big_quiet_step (fail); refine wpQuiet_nil ?_) | (refine lexL_skip0 rfl rfl ?_; simp only [Act.put, List.setIfInBounds_toArray, List.set_cons_succ, List.set_cons_zero]))
  refine lexL_e rfl ?_
  go_wp2_with fail
  refine Hput.out.mono ?_
  rintro r w2 ⟨v2, rfl, hby2, hb2⟩
  have b2 := Below.ext ha2 hb2
  go_wp2_with fail
  refine lexL_go (b2) ?_
  repeat (first | (refine lexL_q0 rfl ?_; go_big_quiet_step (fail); refine wpQuiet_nil ?_) | (refine lexL_skip0 rfl rfl ?_; simp only [Act.put, List.setIfInBounds_toArray, List.set_cons_succ, List.set_cons_zero]))
  refine lexL_ld (⟨w.heap.size, 2, none⟩) (.agg #[.int .i64 d.ev.k0, .int .i64 d.ev.k1, .int .i64 d.ev.k2, .int .i64 d.ev.k3, .int .i64 d.ev.k4, .int .i64 d.ev.k5, .int .i64 d.ev.k6]) rfl rfl rfl (fun w' hS => run_ld_mid (o := 2) [.int .i64 d.ev.k0, .int .i64 d.ev.k1, .int .i64 d.ev.k2, .int .i64 d.ev.k3, .int .i64 d.ev.k4, .int .i64 d.ev.k5, .int .i64 d.ev.k6] ((hS.block _ hsW).trans RW.out) get7 Try.underlying36 rfl (by kernel_rfl)) ?_
  simp only [Act.put, List.setIfInBounds_toArray, List.set_cons_succ, List.set_cons_zero]
  repeat (first | (refine lexL_q0 rfl ?_; go_big_quiet_step (fail); refine wpQuiet_nil ?_) | (refine lexL_skip0 rfl rfl ?_; simp only [Act.put, List.setIfInBounds_toArray, List.set_cons_succ, List.set_cons_zero]))
  refine lexL_e rfl ?_
  go_wp2_with fail
  have hpe := refputEvent_o v2 _ _ w2 hby2 d.ev hze (by rw [List.length_append]; simp at hl2; omega)
  unfold evV at hpe
  refine hpe.mono ?_
  rintro r w3 ⟨v3, rfl, hby3, hb3⟩
  have b3 := Below.ext b2 hb3
  go_wp2_with fail
  refine lexL_go (b3) ?_
  repeat (first | (refine lexL_q0 rfl ?_; go_big_quiet_step (fail); refine wpQuiet_nil ?_) | (refine lexL_skip0 rfl rfl ?_; simp only [Act.put, List.setIfInBounds_toArray, List.set_cons_succ, List.set_cons_zero]))
  refine lexL_nil ?_
  go_wp2_with fail
  go_wp2
  go_ret
  exact ⟨v3, rfl, hby3.weak (Nat.le_trans haW.size b2.size), Below.ext haW b3⟩

end Go.Proofs.Ytjcfnpmgklliiaa
