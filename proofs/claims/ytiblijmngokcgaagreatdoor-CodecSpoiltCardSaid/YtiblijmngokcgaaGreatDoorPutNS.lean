import Derived.Test.YtiblijmngokcgaaGreatDoorCodecBS
namespace Go.Proofs.YtiblijmngokcgaaGreatDoor
open Go.RowKit
set_option maxRecDepth 100000
set_option linter.unusedVariables false
set_option linter.unusedSimpArgs false
theorem refputint_n (v : Value) (z : Int) (l : List UInt8) (base : Nat) (w : World) (hbase : base ≤ w.heap.size) (hv : OwnB w base 5 v l) (hn : l.length ≤ 10000000000) (hz : InR z) :
    Calls Tryz.prog 59 #[v, .int .i64 z] w fun e w' => ∃ v', e = .returned v' ∧ OwnB w' base 5 v' (l ++ encI z) ∧ Below w.heap.size w w' := by
  obtain ⟨A, c, rfl, h1, h2, h3⟩ := hv.bytes
  refine (refputint_any A l.length c z l _ w ⟨A, c, rfl, h1, h2, h3⟩ hn hz.1 hz.2).mono ?_
  rintro e w' ⟨A', c', rfl, ho, hb⟩
  exact ⟨_, rfl, ho.weak hbase, hb⟩
set_option maxHeartbeats 1000000 in
theorem refints_n (v : Value) (l : List UInt8) (base : Nat) (w : World) (hbase : base ≤ w.heap.size) (hv : OwnB w base 5 v l) (Au : Option Addr) (nu cu : Nat) (zs : List Int) (Su : Nat → Prop) (hu : Recs encZ Su w (.slice Au nu cu) zs) (hz : ∀ z ∈ zs, InR z) (hlen : l.length + 10 * nu ≤ 10000000000) :
    Calls Tryz.prog 82 #[v, .slice Au nu cu] w fun e w' => ∃ v', e = .returned v' ∧ OwnB w' base 5 v' (l ++ encs zs) ∧ Below w.heap.size w w' := by
  have hul := hu.len
  have HZ := Lib.hid hz
  have HUL := Lib.hid hul.1
  clear hz
  go_enter Tryz.func82, Tryz.ntmps82
  go_wp2
  go_loopw [0, 5] (fun v i wr => ∃ (k : Nat), i = .int .i64 k ∧ k ≤ nu ∧ OwnB wr base 5 v (l ++ encs (zs.take k)) ∧ (l ++ encs (zs.take k)).length ≤ l.length + 10 * k ∧ Below w.heap.size w wr) (fun _ i _ => nu - (intOf i).toNat)
  case atStart =>
    refine ⟨0, rfl, by omega, ?_, by simp [encs], Below.refl _ _⟩
    simpa [encs] using hv
  case round =>
    obtain ⟨k, rfl, hk, hby, hll, hbr⟩ := hrel
    by_cases hlt : k < nu
    · obtain ⟨b, off, z, rfl, _, hbl, hzk, hc⟩ := (hu.ext hbr).at_ encZ_len (j := k) (by have := HUL.out; omega) (by omega)
      have qz := hc 0 _ rfl
      rw [Nat.mul_one, Nat.add_zero] at qz
      have hzr := HZ.out z (List.mem_of_getElem? hzk)
      have htk : zs.take (k + 1) = zs.take k ++ [z] := by rw [List.take_add_one, hzk]; rfl
      have htk' : l ++ encs (zs.take (k + 1)) = (l ++ encs (zs.take k)) ++ encI z := by rw [htk]; simp [encs]
      have HTK := Lib.hid htk'
      have hil := encI_len hzr.1 hzr.2
      generalize l ++ encs (zs.take k) = lk at *
      clear hc htk htk' hzk
      go_wp2_with fail
      refine (refputint_n _ z lk base wr (Nat.le_trans hbase hbr.size) hby (by omega) hzr).mono ?_
      rintro e w2 ⟨v2, rfl, ho2, hb2⟩
      have hl2 : (l ++ encs (zs.take (k + 1))).length = lk.length + (encI z).length := by rw [HTK.out]; simp
      go_wp2
      go_roundw
      case rel => exact ⟨k + 1, by go_num, by omega, by rw [HTK.out]; exact ho2, by omega, Below.ext hbr hb2⟩
      case measure => simp [intOf]; omega
    · obtain rfl : k = nu := by omega
      rw [List.take_of_length_le (by have := HUL.out; omega)] at hby
      go_wp2
      go_ret
      exact ⟨_, rfl, hby, hbr⟩
set_option maxHeartbeats 1000000 in
theorem refputEvent_n (v : Value) (l : List UInt8) (base : Nat) (w : World) (hbase : base ≤ w.heap.size) (hv : OwnB w base 5 v l) (e : Ev) (hz : ∀ z ∈ e.l, InR z) (hlen : l.length ≤ 1000000000) :
    Calls Tryz.prog 83 #[v, evV e] w fun r w' => ∃ v', r = .returned v' ∧ OwnB w' base 5 v' (l ++ encs e.l) ∧ Below w.heap.size w w' := by
  obtain ⟨W, hW⟩ : ∃ W, W = (w.alloc (.cells #[.int .i64 e.k0, .int .i64 e.k1, .int .i64 e.k2, .int .i64 e.k3, .int .i64 e.k4, .int .i64 e.k5, .int .i64 e.k6] 78)).alloc (.cells #[.int .i64 e.k0, .int .i64 e.k1, .int .i64 e.k2, .int .i64 e.k3, .int .i64 e.k4, .int .i64 e.k5, .int .i64 e.k6] 3) := ⟨_, rfl⟩
  have haW : Below w.heap.size w W := by rw [hW]; exact ((Below.refl _ _).alloc (Nat.le_refl _) _).alloc (by simp) _
  have hlit := litZ (w.alloc (.cells #[.int .i64 e.k0, .int .i64 e.k1, .int .i64 e.k2, .int .i64 e.k3, .int .i64 e.k4, .int .i64 e.k5, .int .i64 e.k6] 78)) 3 e.l #[.int .i64 e.k0, .int .i64 e.k1, .int .i64 e.k2, .int .i64 e.k3, .int .i64 e.k4, .int .i64 e.k5, .int .i64 e.k6] 7 rfl rfl (by omega)
  rw [World.size_alloc, ← hW] at hlit
  have hput := refints_n v l base W (Nat.le_trans hbase haW.size) (hv.ext haW) _ 7 7 e.l _ hlit hz (by omega)
  have Hput := Lib.hid hput
  clear hput hlit
  unfold evV
  go_enter Tryz.func83, Tryz.ntmps83
  go_wp2_with fail
  rw [← hW]
  refine Hput.out.mono ?_
  rintro r w2 ⟨v', rfl, h2, h3⟩
  go_wp2
  go_ret
  exact ⟨v', rfl, h2, Below.ext haW h3⟩
set_option maxHeartbeats 8000000 in
theorem refputState_n (v : Value) (l : List UInt8) (base : Nat) (w : World) (hbase : base ≤ w.heap.size) (hv : OwnB w base 5 v l) (s : Stt) (Ac Ae As Ao : Option Addr) (nc cc ne ce ns cs no co : Nat) (hC : Recs encZ (· < w.heap.size) w (.slice Ac nc cc) s.cells) (hE : Recs encEv (· < w.heap.size) w (.slice Ae ne ce) s.evs) (hS : Recs encSn (· < w.heap.size) w (.slice As ns cs) s.sent) (hO : Recs encOu (· < w.heap.size) w (.slice Ao no co) s.outs) (hok : SttOk s) (hlen : l.length ≤ 1000000) (hne : ne ≤ 100) (hns : ns ≤ 100) (hno : no ≤ 100) :
    Calls Tryz.prog 34 #[v, .agg #[.slice Ac nc cc, .slice Ae ne ce, .slice As ns cs, .slice Ao no co]] w fun r w' => ∃ v', r = .returned v' ∧ OwnB w' base 5 v' (l ++ encs s.l) ∧ Below w.heap.size w w' := by
  have HC := Lib.hid hC.len.1
  have HE := Lib.hid hE.len.1
  have HS := Lib.hid hS.len.1
  have HO := Lib.hid hO.len.1
  have hC2 := hC.len.2
  have hE2 := hE.len.2
  have hS2 := hS.len.2
  have hO2 := hO.len.2
  have HOK := Lib.hid hok
  have hsm : nc ≤ 2000000 := by have := hok.small; have := HC.out; omega
  clear hok
  obtain ⟨W, hW⟩ : ∃ W, W = w.alloc (.cells #[.slice Ac nc cc, .slice Ae ne ce, .slice As ns cs, .slice Ao no co] 51) := ⟨_, rfl⟩
  have haW : Below w.heap.size w W := by rw [hW]; exact (Below.refl _ _).alloc (Nat.le_refl _) _
  have rW : W.heap[w.heap.size]? = some (.cells #[.slice Ac nc cc, .slice Ae ne ce, .slice As ns cs, .slice Ao no co] 51 (0, 0)) := by rw [hW]; exact heap_alloc_new _ _
  have hsW : w.heap.size < W.heap.size := (Array.getElem?_eq_some_iff.1 rW).1
  have RW := Lib.hid rW
  have hB : base ≤ W.heap.size := by omega
  have hCW := hC.ext haW
  have hEW := hE.ext haW
  have hSW := hS.ext haW
  have hOW := hO.ext haW
  have hvW := hv.ext haW
  clear rW hC hE hS hO
  go_enter Tryz.func34, Tryz.ntmps34
  go_wp2_with fail
  rw [← hW]
  clear hW
  refine wp_region_lexL (Below W.heap.size W) (by kernel_rfl) (by kernel_rfl) ((Below.refl _ _).drew) ?_
  repeat (first | (refine lexL_q0 rfl ?_; go_big_quiet_step (fail); refine wpQuiet_nil ?_) | (refine lexL_skip0 rfl rfl ?_; simp only [Act.put, List.setIfInBounds_toArray, List.set_cons_succ, List.set_cons_zero]))
  refine lexL_ld (⟨w.heap.size, 0, none⟩) (.slice Ac nc cc) rfl rfl rfl (fun w' hS => run_ld1 (ag_ints _) (row_cell ((hS.block _ hsW).trans RW.out) 0 _ rfl)) ?_
  simp only [Act.put, List.setIfInBounds_toArray, List.set_cons_succ, List.set_cons_zero]
  repeat (first | (refine lexL_q0 rfl ?_; go_big_quiet_step (fail); refine wpQuiet_nil ?_) | (refine lexL_skip0 rfl rfl ?_; simp only [Act.put, List.setIfInBounds_toArray, List.set_cons_succ, List.set_cons_zero]))
  refine lexL_e rfl ?_
  go_wp2_with fail
  refine (refputint_n v (nc : Int) l base W.drew hB (hvW.ext (Below.refl _ _).drew) (by omega) ⟨by omega, by omega⟩).mono ?_
  rintro r w2 ⟨v2, rfl, hby2, hb2'⟩
  have hb2 : Below W.heap.size W w2 := Below.ext (Below.refl _ _).drew hb2'
  obtain ⟨l2, hl2⟩ : ∃ l2, l2 = l ++ encI (nc : Int) := ⟨_, rfl⟩
  have hi2 := encI_len (v := (nc : Int)) (by omega) (by omega)
  have hL2 : l2.length ≤ l.length + 10 := by rw [hl2, List.length_append]; omega
  rw [← hl2] at hby2
  have K2 := Lib.hid hl2
  clear hl2 hb2'
  go_wp2_with fail
  refine lexL_go (hb2) ?_
  repeat (first | (refine lexL_q0 rfl ?_; go_big_quiet_step (fail); refine wpQuiet_nil ?_) | (refine lexL_skip0 rfl rfl ?_; simp only [Act.put, List.setIfInBounds_toArray, List.set_cons_succ, List.set_cons_zero]))
  refine lexL_ld (⟨w.heap.size, 0, none⟩) (.slice Ac nc cc) rfl rfl rfl (fun w' hS => run_ld1 (ag_ints _) (row_cell ((hS.block _ hsW).trans RW.out) 0 _ rfl)) ?_
  simp only [Act.put, List.setIfInBounds_toArray, List.set_cons_succ, List.set_cons_zero]
  repeat (first | (refine lexL_q0 rfl ?_; go_big_quiet_step (fail); refine wpQuiet_nil ?_) | (refine lexL_skip0 rfl rfl ?_; simp only [Act.put, List.setIfInBounds_toArray, List.set_cons_succ, List.set_cons_zero]))
  refine lexL_e rfl ?_
  go_wp2_with fail
  refine (refints_n v2 l2 base w2 (Nat.le_trans hB hb2.size) hby2 Ac nc cc s.cells _ (hCW.ext hb2) HOK.out.cells (by omega)).mono ?_
  rintro r w3 ⟨v3, rfl, hby3, hb3'⟩
  have hb3 := Below.ext hb2 hb3'
  obtain ⟨l3, hl3⟩ : ∃ l3, l3 = l2 ++ encs s.cells := ⟨_, rfl⟩
  have hL3 : l3.length ≤ l.length + 10 + 20000000 := by
    have h1 := encs_len _ HOK.out.cells
    have h2 := HC.out
    rw [hl3, List.length_append]
    omega
  rw [← hl3] at hby3
  have K3 := Lib.hid hl3
  clear hl3 hb3'
  go_wp2_with fail
  refine lexL_go (hb3) ?_
  repeat (first | (refine lexL_q0 rfl ?_; go_big_quiet_step (fail); refine wpQuiet_nil ?_) | (refine lexL_skip0 rfl rfl ?_; simp only [Act.put, List.setIfInBounds_toArray, List.set_cons_succ, List.set_cons_zero]))
  refine lexL_nil ?_
  have q3 : w3.cell? ⟨w.heap.size, 1, none⟩ = some (.slice Ae ne ce) := row_cell ((hb3.block _ hsW).trans RW.out) 1 _ rfl
  go_wp2_with fail
  refine (refputint_n v3 (ne : Int) l3 base w3 (Nat.le_trans hB hb3.size) hby3 (by omega) ⟨by omega, by omega⟩).mono ?_
  rintro r w4 ⟨v4, rfl, hby4, hb4'⟩
  have hb4 := Below.ext hb3 hb4'
  obtain ⟨l4, hl4⟩ : ∃ l4, l4 = l3 ++ encI (ne : Int) := ⟨_, rfl⟩
  have hi4 := encI_len (v := (ne : Int)) (by omega) (by omega)
  have hL4 : l4.length ≤ l.length + 20000020 := by rw [hl4, List.length_append]; omega
  rw [← hl4] at hby4
  have K4 := Lib.hid hl4
  clear hl4 q3 hb4'
  go_wp2
  go_loopw [0, 5] (fun v i wr => ∃ (k : Nat), i = .int .i64 k ∧ k ≤ ne ∧ OwnB wr base 5 v (l4 ++ encs ((s.evs.take k).flatMap Ev.l)) ∧ (l4 ++ encs ((s.evs.take k).flatMap Ev.l)).length ≤ l.length + 20000020 + k * 70 ∧ Below W.heap.size W wr) (fun _ i _ => ne - (intOf i).toNat)
  case atStart => exact ⟨0, rfl, by omega, by simpa [encs] using hby4, by simpa [encs] using hL4, hb4⟩
  case round =>
    clear hby4 hb4
    obtain ⟨k, rfl, hk, hby, hll, hbr⟩ := hrel
    have qq : wr.cell? ⟨w.heap.size, 1, none⟩ = some (.slice Ae ne ce) := row_cell ((hbr.block _ hsW).trans RW.out) 1 _ rfl
    by_cases hlt : k < ne
    · obtain ⟨b, off, x, rfl, hbS, hbl, hxk, hc⟩ := (hEW.ext hbr).at_ encEv_len (j := k) (by have := HE.out; omega) (by omega)
      have hxr := HOK.out.evs x (List.mem_of_getElem? hxk)
      have hfl := flat_tk Ev.l s.evs k x hxk
      have c0 := hc 0 _ rfl
      have c1 := hc 1 _ rfl
      have c2 := hc 2 _ rfl
      have c3 := hc 3 _ rfl
      have c4 := hc 4 _ rfl
      have c5 := hc 5 _ rfl
      have c6 := hc 6 _ rfl
      rw [Nat.add_zero] at c0
      obtain ⟨lk, hlk⟩ : ∃ lk, lk = l4 ++ encs ((s.evs.take k).flatMap Ev.l) := ⟨_, rfl⟩
      have htgt : l4 ++ encs ((s.evs.take (k + 1)).flatMap Ev.l) = lk ++ encs x.l := by rw [hfl, hlk, encs_append, List.append_assoc]
      have HTG := Lib.hid htgt
      rw [← hlk] at hby hll
      have hsz := hbr.size
      clear hxk hfl htgt hlk hc
      have hput := refputEvent_n _ lk base wr (Nat.le_trans hB hbr.size) hby x hxr (by omega)
      unfold evV at hput
      have Hput := Lib.hid hput
      clear hput
      go_wp2_with fail
      refine Hput.out.mono ?_
      rintro r w6 ⟨v6, rfl, hby6, hb6⟩
      have hel := encs_len x.l hxr
      rw [← HTG.out] at hby6
      have hln : (l4 ++ encs ((s.evs.take (k + 1)).flatMap Ev.l)).length ≤ l.length + 20000020 + (k + 1) * 70 := by
        rw [HTG.out, List.length_append]
        have : x.l.length = 7 := rfl
        omega
      go_wp2
      go_roundw
      case rel => exact ⟨k + 1, by go_num, by omega, hby6, hln, Below.ext hbr hb6⟩
      case measure => simp [intOf]; omega
    · obtain rfl : k = ne := by omega
      rw [List.take_of_length_le (by have := HE.out; omega)] at hby hll
      obtain ⟨l5, hl5⟩ : ∃ l5, l5 = l4 ++ encs (s.evs.flatMap Ev.l) := ⟨_, rfl⟩
      rw [← hl5] at hby hll
      have K5 := Lib.hid hl5
      have hL5 : l5.length ≤ l.length + 20007020 := by omega
      clear hl5 hll
      obtain ⟨v5, hv5⟩ : ∃ v5, v5 = u0 := ⟨_, rfl⟩
      obtain ⟨w5, hw5⟩ : ∃ w5, w5 = wr := ⟨_, rfl⟩
      rw [← hw5] at hby hbr qq
      rw [← hv5] at hby
      have hb5 := hbr
      have hby5 := hby
      rw [← hw5, ← hv5]
      clear hw5 hv5 hby hbr
      have q5 : w5.cell? ⟨w.heap.size, 2, none⟩ = some (.slice As ns cs) := row_cell ((hb5.block _ hsW).trans RW.out) 2 _ rfl
      go_wp2_with fail
      refine (refputint_n v5 (ns : Int) l5 base w5 (Nat.le_trans hB hb5.size) hby5 (by omega) ⟨by omega, by omega⟩).mono ?_
      rintro r w6 ⟨v6, rfl, hby6, hb6'⟩
      have hb6 := Below.ext hb5 hb6'
      obtain ⟨l6, hl6⟩ : ∃ l6, l6 = l5 ++ encI (ns : Int) := ⟨_, rfl⟩
      have hi6 := encI_len (v := (ns : Int)) (by omega) (by omega)
      have hL6 : l6.length ≤ l.length + 20007030 := by rw [hl6, List.length_append]; omega
      rw [← hl6] at hby6
      have K6 := Lib.hid hl6
      clear hl6 q5 hb6'
      go_wp2
      go_loopw [0, 6] (fun v i wr => ∃ (k : Nat), i = .int .i64 k ∧ k ≤ ns ∧ OwnB wr base 5 v (l6 ++ encs ((s.sent.take k).flatMap Snd.l)) ∧ (l6 ++ encs ((s.sent.take k).flatMap Snd.l)).length ≤ l.length + 20007030 + k * 40 ∧ Below W.heap.size W wr) (fun _ i _ => ns - (intOf i).toNat)
      case atStart => exact ⟨0, rfl, by omega, by simpa [encs] using hby6, by simpa [encs] using hL6, hb6⟩
      case round =>
        clear hby6 hb6
        obtain ⟨k, rfl, hk, hby, hll, hbr⟩ := hrel
        have qq : wr.cell? ⟨w.heap.size, 2, none⟩ = some (.slice As ns cs) := row_cell ((hbr.block _ hsW).trans RW.out) 2 _ rfl
        by_cases hlt : k < ns
        · obtain ⟨b, off, x, rfl, hbS, hbl, hxk, hc⟩ := (hSW.ext hbr).at_ encSn_len (j := k) (by have := HS.out; omega) (by omega)
          have hxr := HOK.out.sent x (List.mem_of_getElem? hxk)
          have hfl := flat_tk Snd.l s.sent k x hxk
          have c0 := hc 0 _ rfl
          have c1 := hc 1 _ rfl
          have c2 := hc 2 _ rfl
          have c3 := hc 3 _ rfl
          rw [Nat.add_zero] at c0
          obtain ⟨lk, hlk⟩ : ∃ lk, lk = l6 ++ encs ((s.sent.take k).flatMap Snd.l) := ⟨_, rfl⟩
          have htgt : l6 ++ encs ((s.sent.take (k + 1)).flatMap Snd.l) = lk ++ encs x.l := by rw [hfl, hlk, encs_append, List.append_assoc]
          have HTG := Lib.hid htgt
          rw [← hlk] at hby hll
          have hsz := hbr.size
          clear hxk hfl htgt hlk hc
          have C0 := Lib.hid c0
          have C1 := Lib.hid c1
          have C2 := Lib.hid c2
          have C3 := Lib.hid c3
          clear c0 c1 c2 c3
          have hcel : ∀ (w' : World) (q : Addr), Below wr.heap.size wr w' → q.block < wr.heap.size → w'.cell? q = wr.cell? q := fun w' q h hq => h.cell hq
          have HCC := Lib.hid hcel
          have rr := (hbr.block _ hsW).trans RW.out
          have hszW : w.heap.size < wr.heap.size := (Array.getElem?_eq_some_iff.1 rr).1
          have RR := Lib.hid rr
          have ha3 : Below wr.heap.size wr (wr.alloc (.cells #[.int .i64 x.a, .int .i64 x.b, .int .i64 x.c, .int .i64 x.d] 3)).drew := ((Below.refl _ _).alloc (Nat.le_refl _) _).drew
          have hlit := (litZ wr 3 x.l #[.int .i64 x.a, .int .i64 x.b, .int .i64 x.c, .int .i64 x.d] 4 rfl rfl (by omega)).drew
          have hput := refints_n _ lk base (wr.alloc (.cells #[.int .i64 x.a, .int .i64 x.b, .int .i64 x.c, .int .i64 x.d] 3)).drew (Nat.le_trans (Nat.le_trans hB hbr.size) ha3.size) (hby.ext ha3) _ 4 4 x.l _ hlit hxr (by omega)
          have Hput := Lib.hid hput
          clear hcel rr hput hlit
          go_wp2_with fail
          refine wp_region_lexL (Below wr.heap.size wr) (by kernel_rfl) (by kernel_rfl) ((Below.refl _ _).drew) ?_
          repeat (first | (refine lexL_q0 rfl ?_; go_big_quiet_step (fail); refine wpQuiet_nil ?_) | (refine lexL_skip0 rfl rfl ?_; simp only [Act.put, List.setIfInBounds_toArray, List.set_cons_succ, List.set_cons_zero]))
          refine lexL_ld (⟨w.heap.size, 2, none⟩) (.slice (some ⟨b, off, none⟩) ns cs) rfl rfl rfl (fun w' hS => run_ld1 (ag_sends _) (row_cell ((hS.block _ hszW).trans RR.out) 2 _ rfl)) ?_
          simp only [Act.put, List.setIfInBounds_toArray, List.set_cons_succ, List.set_cons_zero]
          repeat (first | (refine lexL_q0 rfl ?_; go_big_quiet_step (fail); refine wpQuiet_nil ?_) | (refine lexL_skip0 rfl rfl ?_; simp only [Act.put, List.setIfInBounds_toArray, List.set_cons_succ, List.set_cons_zero]))
          refine lexL_ld (⟨b, off + k * 4, none⟩) (.int .i64 x.a) rfl rfl rfl (fun w' hS => run_ld1 (ag_int _) ((HCC.out w' ⟨b, off + k * 4, none⟩ hS hbl).trans C0.out)) ?_
          simp only [Act.put, List.setIfInBounds_toArray, List.set_cons_succ, List.set_cons_zero]
          repeat (first | (refine lexL_q0 rfl ?_; go_big_quiet_step (fail); refine wpQuiet_nil ?_) | (refine lexL_skip0 rfl rfl ?_; simp only [Act.put, List.setIfInBounds_toArray, List.set_cons_succ, List.set_cons_zero]))
          refine lexL_ld (⟨w.heap.size, 2, none⟩) (.slice (some ⟨b, off, none⟩) ns cs) rfl rfl rfl (fun w' hS => run_ld1 (ag_sends _) (row_cell ((hS.block _ hszW).trans RR.out) 2 _ rfl)) ?_
          simp only [Act.put, List.setIfInBounds_toArray, List.set_cons_succ, List.set_cons_zero]
          repeat (first | (refine lexL_q0 rfl ?_; go_big_quiet_step (fail); refine wpQuiet_nil ?_) | (refine lexL_skip0 rfl rfl ?_; simp only [Act.put, List.setIfInBounds_toArray, List.set_cons_succ, List.set_cons_zero]))
          refine lexL_ld (⟨b, off + k * 4 + 1, none⟩) (.int .i64 x.b) rfl rfl rfl (fun w' hS => run_ld1 (ag_int _) ((HCC.out w' ⟨b, off + k * 4 + 1, none⟩ hS hbl).trans C1.out)) ?_
          simp only [Act.put, List.setIfInBounds_toArray, List.set_cons_succ, List.set_cons_zero]
          repeat (first | (refine lexL_q0 rfl ?_; go_big_quiet_step (fail); refine wpQuiet_nil ?_) | (refine lexL_skip0 rfl rfl ?_; simp only [Act.put, List.setIfInBounds_toArray, List.set_cons_succ, List.set_cons_zero]))
          refine lexL_ld (⟨w.heap.size, 2, none⟩) (.slice (some ⟨b, off, none⟩) ns cs) rfl rfl rfl (fun w' hS => run_ld1 (ag_sends _) (row_cell ((hS.block _ hszW).trans RR.out) 2 _ rfl)) ?_
          simp only [Act.put, List.setIfInBounds_toArray, List.set_cons_succ, List.set_cons_zero]
          repeat (first | (refine lexL_q0 rfl ?_; go_big_quiet_step (fail); refine wpQuiet_nil ?_) | (refine lexL_skip0 rfl rfl ?_; simp only [Act.put, List.setIfInBounds_toArray, List.set_cons_succ, List.set_cons_zero]))
          refine lexL_ld (⟨b, off + k * 4 + 2, none⟩) (.int .i64 x.c) rfl rfl rfl (fun w' hS => run_ld1 (ag_int _) ((HCC.out w' ⟨b, off + k * 4 + 2, none⟩ hS hbl).trans C2.out)) ?_
          simp only [Act.put, List.setIfInBounds_toArray, List.set_cons_succ, List.set_cons_zero]
          repeat (first | (refine lexL_q0 rfl ?_; go_big_quiet_step (fail); refine wpQuiet_nil ?_) | (refine lexL_skip0 rfl rfl ?_; simp only [Act.put, List.setIfInBounds_toArray, List.set_cons_succ, List.set_cons_zero]))
          refine lexL_ld (⟨w.heap.size, 2, none⟩) (.slice (some ⟨b, off, none⟩) ns cs) rfl rfl rfl (fun w' hS => run_ld1 (ag_sends _) (row_cell ((hS.block _ hszW).trans RR.out) 2 _ rfl)) ?_
          simp only [Act.put, List.setIfInBounds_toArray, List.set_cons_succ, List.set_cons_zero]
          repeat (first | (refine lexL_q0 rfl ?_; go_big_quiet_step (fail); refine wpQuiet_nil ?_) | (refine lexL_skip0 rfl rfl ?_; simp only [Act.put, List.setIfInBounds_toArray, List.set_cons_succ, List.set_cons_zero]))
          refine lexL_ld (⟨b, off + k * 4 + 3, none⟩) (.int .i64 x.d) rfl rfl rfl (fun w' hS => run_ld1 (ag_int _) ((HCC.out w' ⟨b, off + k * 4 + 3, none⟩ hS hbl).trans C3.out)) ?_
          simp only [Act.put, List.setIfInBounds_toArray, List.set_cons_succ, List.set_cons_zero]
          repeat (first | (refine lexL_q0 rfl ?_; go_big_quiet_step (fail); refine wpQuiet_nil ?_) | (refine lexL_skip0 rfl rfl ?_; simp only [Act.put, List.setIfInBounds_toArray, List.set_cons_succ, List.set_cons_zero]))
          refine lexL_e rfl ?_
          go_wp2_with fail
          refine lexL_go ha3 ?_
          repeat (first | (refine lexL_q0 rfl ?_; go_big_quiet_step (fail); refine wpQuiet_nil ?_) | (refine lexL_skip0 rfl rfl ?_; simp only [Act.put, List.setIfInBounds_toArray, List.set_cons_succ, List.set_cons_zero]))
          refine lexL_e rfl ?_
          go_wp2_with fail
          refine Hput.out.mono ?_
          rintro r w6 ⟨v6, rfl, hby6, hb6'⟩
          have hb6 := Below.ext ha3 hb6'
          go_wp2_with fail
          refine lexL_go (hb6) ?_
          repeat (first | (refine lexL_q0 rfl ?_; go_big_quiet_step (fail); refine wpQuiet_nil ?_) | (refine lexL_skip0 rfl rfl ?_; simp only [Act.put, List.setIfInBounds_toArray, List.set_cons_succ, List.set_cons_zero]))
          refine lexL_nil ?_
          go_wp2_with fail
          have hel := encs_len x.l hxr
          rw [← HTG.out] at hby6
          have hln : (l6 ++ encs ((s.sent.take (k + 1)).flatMap Snd.l)).length ≤ l.length + 20007030 + (k + 1) * 40 := by
            rw [HTG.out, List.length_append]
            have : x.l.length = 4 := rfl
            omega
          go_wp2
          go_roundw
          case rel => exact ⟨k + 1, by go_num, by omega, hby6, hln, Below.ext hbr hb6⟩
          case measure => simp [intOf]; omega
        · obtain rfl : k = ns := by omega
          rw [List.take_of_length_le (by have := HS.out; omega)] at hby hll
          obtain ⟨l7, hl7⟩ : ∃ l7, l7 = l6 ++ encs (s.sent.flatMap Snd.l) := ⟨_, rfl⟩
          rw [← hl7] at hby hll
          have K7 := Lib.hid hl7
          have hL7 : l7.length ≤ l.length + 20011030 := by omega
          clear hl7 hll
          obtain ⟨v7, hv7⟩ : ∃ v7, v7 = u0 := ⟨_, rfl⟩
          obtain ⟨w7, hw7⟩ : ∃ w7, w7 = wr := ⟨_, rfl⟩
          rw [← hw7] at hby hbr qq
          rw [← hv7] at hby
          have hb7 := hbr
          have hby7 := hby
          rw [← hw7, ← hv7]
          clear hw7 hv7 hby hbr
          have q7 : w7.cell? ⟨w.heap.size, 3, none⟩ = some (.slice Ao no co) := row_cell ((hb7.block _ hsW).trans RW.out) 3 _ rfl
          go_wp2_with fail
          refine (refputint_n v7 (no : Int) l7 base w7 (Nat.le_trans hB hb7.size) hby7 (by omega) ⟨by omega, by omega⟩).mono ?_
          rintro r w8 ⟨v8, rfl, hby8, hb8'⟩
          have hb8 := Below.ext hb7 hb8'
          obtain ⟨l8, hl8⟩ : ∃ l8, l8 = l7 ++ encI (no : Int) := ⟨_, rfl⟩
          have hi8 := encI_len (v := (no : Int)) (by omega) (by omega)
          have hL8 : l8.length ≤ l.length + 20011050 := by rw [hl8, List.length_append]; omega
          rw [← hl8] at hby8
          have K8 := Lib.hid hl8
          clear hl8 q7 hb8'
          go_wp2
          go_loopw [0, 7] (fun v i wr => ∃ (k : Nat), i = .int .i64 k ∧ k ≤ no ∧ OwnB wr base 5 v (l8 ++ encs ((s.outs.take k).flatMap Ou.l)) ∧ (l8 ++ encs ((s.outs.take k).flatMap Ou.l)).length ≤ l.length + 20011050 + k * 20 ∧ Below W.heap.size W wr) (fun _ i _ => no - (intOf i).toNat)
          case atStart => exact ⟨0, rfl, by omega, by simpa [encs] using hby8, by simpa [encs] using hL8, hb8⟩
          case round =>
            clear hby8 hb8
            obtain ⟨k, rfl, hk, hby, hll, hbr⟩ := hrel
            have qq : wr.cell? ⟨w.heap.size, 3, none⟩ = some (.slice Ao no co) := row_cell ((hbr.block _ hsW).trans RW.out) 3 _ rfl
            by_cases hlt : k < no
            · obtain ⟨b, off, x, rfl, hbS, hbl, hxk, hc⟩ := (hOW.ext hbr).at_ encOu_len (j := k) (by have := HO.out; omega) (by omega)
              have hxr := HOK.out.outs x (List.mem_of_getElem? hxk)
              have hfl := flat_tk Ou.l s.outs k x hxk
              have c0 := hc 0 _ rfl
              have c1 := hc 1 _ rfl
              rw [Nat.add_zero] at c0
              obtain ⟨lk, hlk⟩ : ∃ lk, lk = l8 ++ encs ((s.outs.take k).flatMap Ou.l) := ⟨_, rfl⟩
              have htgt : l8 ++ encs ((s.outs.take (k + 1)).flatMap Ou.l) = lk ++ encs x.l := by rw [hfl, hlk, encs_append, List.append_assoc]
              have HTG := Lib.hid htgt
              rw [← hlk] at hby hll
              have hsz := hbr.size
              clear hxk hfl htgt hlk hc
              have C0 := Lib.hid c0
              have C1 := Lib.hid c1
              clear c0 c1
              have hcel : ∀ (w' : World) (q : Addr), Below wr.heap.size wr w' → q.block < wr.heap.size → w'.cell? q = wr.cell? q := fun w' q h hq => h.cell hq
              have HCC := Lib.hid hcel
              have rr := (hbr.block _ hsW).trans RW.out
              have hszW : w.heap.size < wr.heap.size := (Array.getElem?_eq_some_iff.1 rr).1
              have RR := Lib.hid rr
              have ha3 : Below wr.heap.size wr (wr.alloc (.cells #[.int .i64 x.a, .int .i64 x.b] 3)).drew := ((Below.refl _ _).alloc (Nat.le_refl _) _).drew
              have hlit := (litZ wr 3 x.l #[.int .i64 x.a, .int .i64 x.b] 2 rfl rfl (by omega)).drew
              have hput := refints_n _ lk base (wr.alloc (.cells #[.int .i64 x.a, .int .i64 x.b] 3)).drew (Nat.le_trans (Nat.le_trans hB hbr.size) ha3.size) (hby.ext ha3) _ 2 2 x.l _ hlit hxr (by omega)
              have Hput := Lib.hid hput
              clear hcel rr hput hlit
              go_wp2_with fail
              refine wp_region_lexL (Below wr.heap.size wr) (by kernel_rfl) (by kernel_rfl) ((Below.refl _ _).drew) ?_
              repeat (first | (refine lexL_q0 rfl ?_; go_big_quiet_step (fail); refine wpQuiet_nil ?_) | (refine lexL_skip0 rfl rfl ?_; simp only [Act.put, List.setIfInBounds_toArray, List.set_cons_succ, List.set_cons_zero]))
              refine lexL_ld (⟨w.heap.size, 3, none⟩) (.slice (some ⟨b, off, none⟩) no co) rfl rfl rfl (fun w' hS => run_ld1 (ag_outs _) (row_cell ((hS.block _ hszW).trans RR.out) 3 _ rfl)) ?_
              simp only [Act.put, List.setIfInBounds_toArray, List.set_cons_succ, List.set_cons_zero]
              repeat (first | (refine lexL_q0 rfl ?_; go_big_quiet_step (fail); refine wpQuiet_nil ?_) | (refine lexL_skip0 rfl rfl ?_; simp only [Act.put, List.setIfInBounds_toArray, List.set_cons_succ, List.set_cons_zero]))
              refine lexL_ld (⟨b, off + k * 2, none⟩) (.int .i64 x.a) rfl rfl rfl (fun w' hS => run_ld1 (ag_int _) ((HCC.out w' ⟨b, off + k * 2, none⟩ hS hbl).trans C0.out)) ?_
              simp only [Act.put, List.setIfInBounds_toArray, List.set_cons_succ, List.set_cons_zero]
              repeat (first | (refine lexL_q0 rfl ?_; go_big_quiet_step (fail); refine wpQuiet_nil ?_) | (refine lexL_skip0 rfl rfl ?_; simp only [Act.put, List.setIfInBounds_toArray, List.set_cons_succ, List.set_cons_zero]))
              refine lexL_ld (⟨w.heap.size, 3, none⟩) (.slice (some ⟨b, off, none⟩) no co) rfl rfl rfl (fun w' hS => run_ld1 (ag_outs _) (row_cell ((hS.block _ hszW).trans RR.out) 3 _ rfl)) ?_
              simp only [Act.put, List.setIfInBounds_toArray, List.set_cons_succ, List.set_cons_zero]
              repeat (first | (refine lexL_q0 rfl ?_; go_big_quiet_step (fail); refine wpQuiet_nil ?_) | (refine lexL_skip0 rfl rfl ?_; simp only [Act.put, List.setIfInBounds_toArray, List.set_cons_succ, List.set_cons_zero]))
              refine lexL_ld (⟨b, off + k * 2 + 1, none⟩) (.int .i64 x.b) rfl rfl rfl (fun w' hS => run_ld1 (ag_int _) ((HCC.out w' ⟨b, off + k * 2 + 1, none⟩ hS hbl).trans C1.out)) ?_
              simp only [Act.put, List.setIfInBounds_toArray, List.set_cons_succ, List.set_cons_zero]
              repeat (first | (refine lexL_q0 rfl ?_; go_big_quiet_step (fail); refine wpQuiet_nil ?_) | (refine lexL_skip0 rfl rfl ?_; simp only [Act.put, List.setIfInBounds_toArray, List.set_cons_succ, List.set_cons_zero]))
              refine lexL_e rfl ?_
              go_wp2_with fail
              refine lexL_go ha3 ?_
              repeat (first | (refine lexL_q0 rfl ?_; go_big_quiet_step (fail); refine wpQuiet_nil ?_) | (refine lexL_skip0 rfl rfl ?_; simp only [Act.put, List.setIfInBounds_toArray, List.set_cons_succ, List.set_cons_zero]))
              refine lexL_e rfl ?_
              go_wp2_with fail
              refine Hput.out.mono ?_
              rintro r w6 ⟨v6, rfl, hby6, hb6'⟩
              have hb6 := Below.ext ha3 hb6'
              go_wp2_with fail
              refine lexL_go (hb6) ?_
              repeat (first | (refine lexL_q0 rfl ?_; go_big_quiet_step (fail); refine wpQuiet_nil ?_) | (refine lexL_skip0 rfl rfl ?_; simp only [Act.put, List.setIfInBounds_toArray, List.set_cons_succ, List.set_cons_zero]))
              refine lexL_nil ?_
              go_wp2_with fail
              have hel := encs_len x.l hxr
              rw [← HTG.out] at hby6
              have hln : (l8 ++ encs ((s.outs.take (k + 1)).flatMap Ou.l)).length ≤ l.length + 20011050 + (k + 1) * 20 := by
                rw [HTG.out, List.length_append]
                have : x.l.length = 2 := rfl
                omega
              go_wp2
              go_roundw
              case rel => exact ⟨k + 1, by go_num, by omega, hby6, hln, Below.ext hbr hb6⟩
              case measure => simp [intOf]; omega
            · obtain rfl : k = no := by omega
              rw [List.take_of_length_le (by have := HO.out; omega)] at hby hll
              obtain ⟨l9, hl9⟩ : ∃ l9, l9 = l8 ++ encs (s.outs.flatMap Ou.l) := ⟨_, rfl⟩
              rw [← hl9] at hby hll
              have K9 := Lib.hid hl9
              have hL9 : l9.length ≤ l.length + 20013050 := by omega
              clear hl9 hll
              obtain ⟨v9, hv9⟩ : ∃ v9, v9 = u0 := ⟨_, rfl⟩
              obtain ⟨w9, hw9⟩ : ∃ w9, w9 = wr := ⟨_, rfl⟩
              rw [← hw9] at hby hbr qq
              rw [← hv9] at hby
              have hb9 := hbr
              have hby9 := hby
              rw [← hw9, ← hv9]
              clear hw9 hv9 hby hbr
              have he : ∀ z : Int, encI z = encs [z] := fun z => by simp [encs]
              have hfin : l ++ encs s.l = l9 := by
                unfold Stt.l
                rw [K9.out, K8.out, K7.out, K6.out, K5.out, K4.out, K3.out, K2.out, HC.out, HE.out, HS.out, HO.out, he, he, he, he]
                simp only [encs_append, List.append_assoc]
              have HFIN := Lib.hid hfin
              clear he hfin
              go_wp2
              go_ret
              exact ⟨_, rfl, by rw [HFIN.out]; exact hby9, Below.ext haW hb9⟩
end Go.Proofs.YtiblijmngokcgaaGreatDoor
