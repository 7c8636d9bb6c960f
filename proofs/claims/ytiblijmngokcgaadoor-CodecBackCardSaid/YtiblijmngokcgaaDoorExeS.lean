import Derived.Test.YtiblijmngokcgaaDoorRunRS
import Derived.Test.YtiblijmngokcgaaDoorStRS
import Derived.Test.YtiblijmngokcgaaDoorCodecES
namespace Go.Proofs.YtiblijmngokcgaaDoor
open Go.RowKit
set_option maxRecDepth 100000
set_option linter.unusedVariables false
set_option linter.unusedSimpArgs false
theorem infoSn' : (Tryd.prog.info? 75).map (fun i => (i.zero, i.size, i.bytes)) = some (some (.agg #[.int .i64 0, .int .i64 0, .int .i64 0, .int .i64 0]), 4, 32) := by kernel_rfl
theorem infoOu' : (Tryd.prog.info? 77).map (fun i => (i.zero, i.size, i.bytes)) = some (some (.agg #[.int .i64 0, .int .i64 0]), 2, 16) := by kernel_rfl
theorem ag_sns (w : World) : (isAgg 28).run Tryd.prog w = .ok false w := by simp [isAgg, run_underlying Tryd.underlying28]
theorem ag_ous (w : World) : (isAgg 29).run Tryd.prog w = .ok false w := by simp [isAgg, run_underlying Tryd.underlying29]
structure StM (S : Nat → Prop) (w : World) (s : Stt) (A1 : Option Addr) (n1 c1 : Nat) (A2 : Option Addr) (n2 c2 : Nat) (A3 : Option Addr) (n3 c3 : Nat) (A4 : Option Addr) (n4 c4 : Nat) : Prop where
  cells : Recs encZ S w (.slice A1 n1 c1) s.cells
  evs : Recs encEv S w (.slice A2 n2 c2) s.evs
  sent : Recs encSn S w (.slice A3 n3 c3) s.sent
  outs : Recs encOu S w (.slice A4 n4 c4) s.outs
structure SttIn (s : Stt) : Prop where
  cells : ∀ z ∈ s.cells, InR z
  len : s.cells.length ≤ 1000
  evs : s.evs.length ≤ 1000
  sent : s.sent.length ≤ 100000
  outs : s.outs.length ≤ 100000
theorem StM.ext {S : Nat → Prop} {w w' : World} {s : Stt} {A1 : Option Addr} {n1 c1 : Nat} {A2 : Option Addr} {n2 c2 : Nat} {A3 : Option Addr} {n3 c3 : Nat} {A4 : Option Addr} {n4 c4 : Nat} (h : StM S w s A1 n1 c1 A2 n2 c2 A3 n3 c3 A4 n4 c4) (hb : Below w.heap.size w w') : StM S w' s A1 n1 c1 A2 n2 c2 A3 n3 c3 A4 n4 c4 :=
  ⟨h.1.ext hb, h.2.ext hb, h.3.ext hb, h.4.ext hb⟩
theorem boxES (w : World) (a b c d : Value) (v : Env) : ∃ W, W = ((w.alloc (.cells #[a, b, c, d] 31)).alloc (.cells #[.int .i64 v.self, .int .i64 v.procs, .int .i64 v.frm, .int .i64 v.value] 123)).alloc (.cells #[.slice none 0 0, .slice none 0 0, .slice none 0 0, .slice none 0 0] 31) ∧ Below w.heap.size w W ∧ RowKit.Hid (W.heap.size = w.heap.size + 3) ∧
    RowKit.Hid (W.heap[w.heap.size]? = some (.cells #[a, b, c, d] 31 (0, 0))) ∧ RowKit.Hid (W.heap[w.heap.size + 1]? = some (.cells #[.int .i64 v.self, .int .i64 v.procs, .int .i64 v.frm, .int .i64 v.value] 123 (0, 0))) ∧ RowKit.Hid (W.heap[w.heap.size + 2]? = some (.cells #[.slice none 0 0, .slice none 0 0, .slice none 0 0, .slice none 0 0] 31 (0, 0))) := by
  have h2 : ((w.alloc (.cells #[a, b, c, d] 31)).alloc (.cells #[.int .i64 v.self, .int .i64 v.procs, .int .i64 v.frm, .int .i64 v.value] 123)).heap.size = w.heap.size + 2 := by simp
  refine ⟨_, rfl, (((Below.refl _ w).alloc (Nat.le_refl _) _).alloc (by simp) _).alloc (by simp; omega) _, Lib.hid (by simp), Lib.hid ?_, Lib.hid ?_, Lib.hid ?_⟩
  · exact (((Below.refl _ _).alloc (Nat.le_refl _) _).block w.heap.size (by simp; omega)).trans ((((Below.refl _ _).alloc (Nat.le_refl _) _).block w.heap.size (by simp)).trans (heap_alloc_new w _))
  · have := heap_alloc_new (w.alloc (.cells #[a, b, c, d] 31)) (.cells #[.int .i64 v.self, .int .i64 v.procs, .int .i64 v.frm, .int .i64 v.value] 123)
    rw [World.size_alloc] at this
    exact (((Below.refl _ _).alloc (Nat.le_refl _) _).block (w.heap.size + 1) (by simp)).trans this
  · have := heap_alloc_new ((w.alloc (.cells #[a, b, c, d] 31)).alloc (.cells #[.int .i64 v.self, .int .i64 v.procs, .int .i64 v.frm, .int .i64 v.value] 123)) (.cells #[.slice none 0 0, .slice none 0 0, .slice none 0 0, .slice none 0 0] 31)
    rw [h2] at this
    exact this
set_option maxHeartbeats 8000000 in
theorem execute_any (n : Nat) (w : World) (S : Nat → Prop) (s : Stt) (A1 : Option Addr) (n1 c1 : Nat) (A2 : Option Addr) (n2 c2 : Nat) (A3 : Option Addr) (n3 c3 : Nat) (A4 : Option Addr) (n4 c4 : Nat) (hM : StM S w s A1 n1 c1 A2 n2 c2 A3 n3 c3 A4 n4 c4) (hI : SttIn s)
    (A : Option Addr) (m c : Nat) (ts : List Sm) (v : Env) (idx : Int) (hL : LsOk encSm (SmOk n (· < w.heap.size) w) (· < w.heap.size) w (.slice A m c) ts) (hrs : ∀ s ∈ ts, RsS n s) (hv : EnvIn v) :
    Calls Tryd.prog 59 #[.agg #[.slice A1 n1 c1, .slice A2 n2 c2, .slice A3 n3 c3, .slice A4 n4 c4], .slice A m c, .agg #[.int .i64 v.self, .int .i64 v.procs, .int .i64 v.frm, .int .i64 v.value], .int .i64 idx] w fun e w' => ∃ s' B1 m1 d1 B2 m2 d2 B3 m3 d3 B4 m4 d4, e = .returned (.agg #[.slice B1 m1 d1, .slice B2 m2 d2, .slice B3 m3 d3, .slice B4 m4 d4]) ∧ ExR ts v idx s s' ∧ (Recs encZ (w.heap.size ≤ ·) w' (.slice B1 m1 d1) s'.cells ∧ Recs encEv S w' (.slice B2 m2 d2) s'.evs ∧ Recs encSn (w.heap.size ≤ ·) w' (.slice B3 m3 d3) s'.sent ∧ Recs encOu (w.heap.size ≤ ·) w' (.slice B4 m4 d4) s'.outs) ∧ (∀ z ∈ s'.cells, InR z) ∧ s'.sent.length ≤ s.sent.length + 8 ∧ s'.outs.length ≤ s.outs.length + 8 ∧ Below w.heap.size w w' := by
  obtain ⟨W, hW, bW, SW, R0, R1, R2⟩ := boxES w (.slice A1 n1 c1) (.slice A2 n2 c2) (.slice A3 n3 c3) (.slice A4 n4 c4) v
  have hMW := (show StM (· < w.heap.size) w s A1 n1 c1 A2 n2 c2 A3 n3 c3 A4 n4 c4 from ⟨hM.1.mono (fun b hb _ => hb), hM.2.mono (fun b hb _ => hb), hM.3.mono (fun b hb _ => hb), hM.4.mono (fun b hb _ => hb)⟩).ext bW
  obtain ⟨b4, hb4⟩ : ∃ b, b = w.heap.size := ⟨_, rfl⟩
  have hn1 : n1 ≤ 1000 := by have := hM.1.len.1; have := hI.len; omega
  have hrun := run_any n W A m c ts A1 n1 c1 s.cells _ v ((hL.mono (S' := (· < W.heap.size)) (fun b hb h => by have h2 : b < w.heap.size := h; have := SW.out; show b < W.heap.size; omega) (fun y u h => SmOk.mono (fun b _ h => by have h2 : b < w.heap.size := h; have := SW.out; show b < W.heap.size; omega) n y u h)).keep (Keep.of_below bW) (fun y u h => SmOk.keep (Keep.of_below bW) n y u h)) hrs hMW.1 hn1 hI.cells hv
  have Hrun := Lib.hid hrun
  have hl3 := hM.3.len
  have hl4 := hM.4.len
  have HL3 := Lib.hid hl3.1
  have HL4 := Lib.hid hl4.1
  have hs3 := hI.sent
  have hs4 := hI.outs
  have hc3 := hl3.2
  have hc4 := hl4.2
  have hn3 : n3 ≤ 100000 := by omega
  have hn4 : n4 ≤ 100000 := by omega
  clear hrun hb4 hl3 hl4
  go_enter Tryd.func59, Tryd.ntmps59
  go_upto_region 1 with fail
  try rw [← hW]
  clear hW
  have q0 : W.cell? ⟨w.heap.size, 0, none⟩ = some (.slice A1 n1 c1) := row_cell R0.out 0 _ rfl
  go_wp2_with (refine wpList_load_row rfl 123 _ rfl _ rfl 123 _ (0,0) _ R1.out Tryd.underlying123 rfl (by kernel_rfl) ?_)
  refine Hrun.out.mono ?_
  rintro e w1 ⟨B1, m1, d1, E, ne, ce, r, ok, rfl, hrn, hcel, heff, hm1, hne, hci, hei, hb1⟩
  have sW := SW.out
  have s1 := hb1.size
  have R01 := Lib.hid ((hb1.block w.heap.size (by omega)).trans R0.out)
  have R21 := Lib.hid ((hb1.block (w.heap.size + 2) (by omega)).trans R2.out)
  have q1 : w1.cell? ⟨w.heap.size, 0, none⟩ = some (.slice A1 n1 c1) := row_cell R01.out 0 _ rfl
  have f1 : w1.frozen? ⟨w.heap.size, 0, none⟩ = false := frozen_of_row _ _ _ _ _ R01.out
  obtain ⟨W3, hW3⟩ : ∃ W3, W3 = w1.setCell ⟨w.heap.size, 0, none⟩ (.slice B1 m1 d1) := ⟨_, rfl⟩
  have g3 : w1.grownBy W3 (some w.heap.size) := by rw [hW3]; exact grown_set (grown_refl _ _)
  have R03 := Lib.hid (show W3.heap[w.heap.size]? = some (.cells #[.slice B1 m1 d1, .slice A2 n2 c2, .slice A3 n3 c3, .slice A4 n4 c4] 31 (0, 0)) by rw [hW3]; exact heap_setCell_same _ _ _ _ _ _ R01.out)
  have R23 := Lib.hid ((g3.block (w.heap.size + 2) (by omega) (by simp)).trans R21.out)
  have s3 := g3.size
  have hM3 : StM (· < w.heap.size) W3 s A1 n1 c1 A2 n2 c2 A3 n3 c3 A4 n4 c4 := by
    have k : Keep (· < w.heap.size) W W3 := fun q hq h => (g3.block q (by omega) (by have h2 : q < w.heap.size := h; simp; omega)).trans (hb1.block q hq)
    exact ⟨hMW.1.keep k, hMW.2.keep k, hMW.3.keep k, hMW.4.keep k⟩
  have hcel3 := (hcel.mono (S' := fun b => W.heap.size ≤ b) (fun b _ h => h)).keep (w' := W3) (fun q hq h => g3.block q hq (by have h2 : W.heap.size ≤ q := h; simp; omega))
  have heff3 := heff.keep (w' := W3) (fun q hq h => g3.block q hq (by have h2 : W.heap.size ≤ q := h; simp; omega))
  have HB3 := Lib.hid (show Below w.heap.size w W3 from ((bW.trans (hb1.mono (by omega))).trans ((Below.refl w.heap.size w1).grown g3 (by omega) (fun k hk => by cases hk; exact Nat.le_refl _))))
  go_upto_region 3 with fail
  rw [← hW3]
  clear hW3 q0 q1 f1 g3 hcel heff
  try simp only [Act.put]
  go_wp2_with fail
  refine wp_region_lexL ((fun w' => w'.heap[w.heap.size]? = some (.cells #[.slice B1 m1 d1, .slice A2 n2 c2, .slice A3 n3 c3, .slice A4 n4 c4] 31 (0, 0)))) (by kernel_rfl) (by kernel_rfl) (R03.out) ?_
  repeat (first | (refine lexL_q0 rfl ?_; go_big_quiet_step (fail); refine wpQuiet_nil ?_) | (refine lexL_skip0 rfl rfl ?_; simp only [Act.put, List.setIfInBounds_toArray, List.set_cons_succ, List.set_cons_zero]))
  refine lexL_ld (⟨w.heap.size, 2, none⟩) (.slice A3 n3 c3) rfl rfl rfl (fun w' hw' => run_ld1 (ag_sns _) (row_cell hw' 2 _ rfl)) ?_
  simp only [Act.put, List.setIfInBounds_toArray, List.set_cons_succ, List.set_cons_zero]
  repeat (first | (refine lexL_q0 rfl ?_; go_big_quiet_step (fail); refine wpQuiet_nil ?_) | (refine lexL_skip0 rfl rfl ?_; simp only [Act.put, List.setIfInBounds_toArray, List.set_cons_succ, List.set_cons_zero]))
  refine lexL_e rfl ?_
  go_wp2_with (refine wpList_appR (o := ⟨some 29, _, _, _, _, _⟩) encSn_len encSn_one (.agg #[.int .i64 0, .int .i64 0, .int .i64 0, .int .i64 0]) 32 _ _ 28 75 W3.heap.size ([] : List Snd) s.sent A3 n3 c3 (.slice none 0 0) n3 rfl rfl Tryd.underlying28 infoSn' rfl (by omega) rfl rfl (OwnR.nil_ _ _ _) (hM3.3.ext (Below.refl _ W3).drew) (by simp) (by simp; omega) (by simp; omega) (Nat.le_refl _) ?_; intro A5 c5 w5 hO5 hgr5 hat5 hc51 hc52)
  rw [List.nil_append] at hO5
  have z5 : Below W3.heap.size W3 w5 := (Below.refl _ W3).drew.trans ((Below.refl W3.heap.size W3.drew).grown hgr5 (Nat.le_refl _) (fun k hk => by cases hk))
  have R05 := Lib.hid ((z5.block w.heap.size (by omega)).trans R03.out)
  go_wp2_with fail
  refine lexL_go (R05.out) ?_
  repeat (first | (refine lexL_q0 rfl ?_; go_big_quiet_step (fail); refine wpQuiet_nil ?_) | (refine lexL_skip0 rfl rfl ?_; simp only [Act.put, List.setIfInBounds_toArray, List.set_cons_succ, List.set_cons_zero]))
  refine lexL_ld (⟨w.heap.size, 3, none⟩) (.slice A4 n4 c4) rfl rfl rfl (fun w' hw' => run_ld1 (ag_ous _) (row_cell hw' 3 _ rfl)) ?_
  simp only [Act.put, List.setIfInBounds_toArray, List.set_cons_succ, List.set_cons_zero]
  repeat (first | (refine lexL_q0 rfl ?_; go_big_quiet_step (fail); refine wpQuiet_nil ?_) | (refine lexL_skip0 rfl rfl ?_; simp only [Act.put, List.setIfInBounds_toArray, List.set_cons_succ, List.set_cons_zero]))
  refine lexL_e rfl ?_
  have s5 := z5.size
  go_wp2_with (refine wpList_appR (o := ⟨some 32, _, _, _, _, _⟩) encOu_len encOu_one (.agg #[.int .i64 0, .int .i64 0]) 16 _ _ 29 77 W3.heap.size ([] : List Ou) s.outs A4 n4 c4 (.slice none 0 0) n4 rfl rfl Tryd.underlying29 infoOu' rfl (by omega) rfl rfl (OwnR.nil_ _ _ _) (hM3.4.ext z5) (by simp) (by simp; omega) (by simp; omega) (by omega) ?_; intro A6 c6 w6 hO6 hgr6 hat6 hc61 hc62)
  rw [List.nil_append] at hO6
  have z6 : Below W3.heap.size W3 w6 := z5.trans ((Below.refl W3.heap.size w5).grown hgr6 (by omega) (fun k hk => by cases hk))
  have R06 := Lib.hid ((z6.block w.heap.size (by omega)).trans R03.out)
  go_wp2_with fail
  refine lexL_go (R06.out) ?_
  repeat (first | (refine lexL_q0 rfl ?_; go_big_quiet_step (fail); refine wpQuiet_nil ?_) | (refine lexL_skip0 rfl rfl ?_; simp only [Act.put, List.setIfInBounds_toArray, List.set_cons_succ, List.set_cons_zero]))
  refine lexL_nil ?_
  go_wp2_with fail
  have hdis : ∀ o, (Value.slice A5 n3 c5).ownBlock = some o → (Value.slice A6 n4 c6).ownBlock ≠ some o := fun o ho e => by
    have h1 := (World.ownsRow.lt hO5 o ho).2
    rcases hat6 with h | h
    · rw [h] at e; cases e
    · rw [h] at e; cases e; exact Nat.lt_irrefl _ h1
  have hO5' : OwnR encSn 4 w6 W3.heap.size 75 (.slice A5 n3 c5) (s.sent ++ snds idx 0 (r.l.take 0)) := by
    rw [List.take_zero]
    show OwnR encSn 4 w6 W3.heap.size 75 (.slice A5 n3 c5) (s.sent ++ [])
    rw [List.append_nil]
    exact hO5.kept hgr6 (by
      rcases Option.eq_none_or_eq_some (Value.slice A5 n3 c5).ownBlock with h0 | ⟨b, h0⟩
      · exact .inl h0
      · exact .inr (fun e => by rw [h0] at e; cases e))
  have hO6' : OwnR encOu 2 w6 W3.heap.size 77 (.slice A6 n4 c6) (s.outs ++ outsE idx (r.l.take 0)) := by
    rw [List.take_zero]
    show OwnR encOu 2 w6 W3.heap.size 77 (.slice A6 n4 c6) (s.outs ++ [])
    rw [List.append_nil]
    exact hO6
  have hs6 := z6.size
  have HE := Lib.hid heff3.len.1
  have hce := heff3.len.2
  have HEI := Lib.hid hei
  have HM3 := Lib.hid hM3
  have HC3 := Lib.hid hcel3
  clear hO5 hO6 hgr5 hgr6 hat5 hat6 z5 hei hM3 hcel3 R05 R06
  go_wp2_with fail
  go_loopw [12, 13, 14, 15] (fun sv ov o i wr => ∃ (k : Nat) (A5 : Option Addr) (n5 c5 : Nat) (A6 : Option Addr) (n6 c6 : Nat), sv = .slice A5 n5 c5 ∧ ov = .slice A6 n6 c6 ∧ o = .int .i64 ((cntS (r.l.take k) : Nat) : Int) ∧ i = .int .i64 (k : Int) ∧ k ≤ ne ∧ n5 ≤ 100000 + k ∧ n6 ≤ 100000 + k ∧ OwnR encSn 4 wr W3.heap.size 75 (.slice A5 n5 c5) (s.sent ++ snds idx 0 (r.l.take k)) ∧ OwnR encOu 2 wr W3.heap.size 77 (.slice A6 n6 c6) (s.outs ++ outsE idx (r.l.take k)) ∧ (∀ o, (Value.slice A5 n5 c5).ownBlock = some o → (Value.slice A6 n6 c6).ownBlock ≠ some o) ∧ Below W3.heap.size W3 wr) (fun _ _ _ i _ => ne - (intOf i).toNat)
  case atStart => exact ⟨0, A5, n3, c5, A6, n4, c6, rfl, rfl, by simp [cntS], rfl, by omega, by omega, by omega, hO5', hO6', hdis, z6⟩
  case round =>
    clear hO5' hO6' hdis z6
    obtain ⟨k, A5, n5, c5, A6, n6, c6, rfl, rfl, rfl, rfl, hk, hn5, hn6, hO5, hO6, hdis, hz⟩ := hrel
    have hsz := hz.size
    have H5 := Lib.hid hO5.len.1
    have H6 := Lib.hid hO6.len.1
    by_cases hlt : k < ne
    · obtain ⟨be, oe, x, rfl, hSe, hbe, hx, hcx⟩ := (heff3.ext hz).at_ encEf_len (j := k) (by have := HE.out; omega) (by omega)
      have hbe3 : be < W3.heap.size := by
        obtain ⟨bq, oq, xq, hA, _, hb, _⟩ := heff3.at_ encEf_len (j := k) (by have := HE.out; omega) (by omega)
        cases hA
        exact hb
      have HX := Lib.hid hx
      have hkd := (HEI.out x (List.mem_of_getElem? hx)).1
      have e0 : wr.cell? ⟨be, oe + k * 3, none⟩ = some (.int .i64 x.kind) := hcx 0 _ rfl
      have e1 : wr.cell? ⟨be, oe + k * 3 + 1, none⟩ = some (.int .i64 x.to) := hcx 1 _ rfl
      have e2 : wr.cell? ⟨be, oe + k * 3 + 2, none⟩ = some (.int .i64 x.value) := hcx 2 _ rfl
      have htk : r.l.take (k + 1) = r.l.take k ++ [x] := by rw [List.take_add_one, hx]; rfl
      have HTK := Lib.hid htk
      have hcl := cntS_le (r.l.take k)
      rw [List.length_take] at hcl
      obtain ⟨q, hq⟩ : ∃ q, q = cntS (r.l.take k) := ⟨_, rfl⟩
      rw [← hq] at hcl ⊢
      have HQ := Lib.hid hq
      have hqk : q ≤ k := by omega
      clear hx hcx htk hq hcl
      by_cases hk1 : x.kind = 1
      · have d1 : (x.kind == 1) = true := by simpa using hk1
        have HK1 := Lib.hid hk1
        clear hk1 hkd
        go_upto_region 9 with fail
        have v1 : W3.cell? ⟨be, oe + k * 3 + 1, none⟩ = some (.int .i64 x.to) := (hz.cell (p := ⟨be, oe + k * 3 + 1, none⟩) hbe3).symm.trans e1
        have v2 : W3.cell? ⟨be, oe + k * 3 + 2, none⟩ = some (.int .i64 x.value) := (hz.cell (p := ⟨be, oe + k * 3 + 2, none⟩) hbe3).symm.trans e2
        have V1 := Lib.hid v1
        have V2 := Lib.hid v2
        have ha : Below wr.heap.size wr (wr.drew.alloc (.cells #[.int .i64 idx, .int .i64 (q : Int), .int .i64 x.to, .int .i64 x.value] 75)) := (Below.refl _ wr).drew.alloc (Nat.le_refl _) _
        have hone : Recs encSn (fun _ => True) (wr.drew.alloc (.cells #[.int .i64 idx, .int .i64 (q : Int), .int .i64 x.to, .int .i64 x.value] 75)) (.slice (some ⟨wr.drew.heap.size, 0, none⟩) 1 1) [⟨idx, (q : Int), x.to, x.value⟩] := ⟨_, 1, rfl, by simp, by simp [maxLen], Cs.lit _ _ _ _ _ trivial rfl⟩
        have hasz := ha.size
        have hza : Below W3.heap.size W3 (wr.drew.alloc (.cells #[.int .i64 idx, .int .i64 (q : Int), .int .i64 x.to, .int .i64 x.value] 75)) := hz.trans (ha.mono hsz)
        clear v1 v2 e0 e1 e2
        go_wp2_with fail
        refine wp_region_lexL ((fun w' => Below W3.heap.size W3 w')) (by kernel_rfl) (by kernel_rfl) (hz.drew) ?_
        repeat (first | (refine lexL_q0 rfl ?_; go_big_quiet_step (fail); refine wpQuiet_nil ?_) | (refine lexL_skip0 rfl rfl ?_; simp only [Act.put, List.setIfInBounds_toArray, List.set_cons_succ, List.set_cons_zero]))
        refine lexL_ld (⟨be, oe + k * 3 + 1, none⟩) (.int .i64 x.to) rfl rfl rfl (fun w' hw' => run_ld1 (ag_int _) ((hw'.cell (p := ⟨be, oe + k * 3 + 1, none⟩) hbe3).trans V1.out)) ?_
        simp only [Act.put, List.setIfInBounds_toArray, List.set_cons_succ, List.set_cons_zero]
        repeat (first | (refine lexL_q0 rfl ?_; go_big_quiet_step (fail); refine wpQuiet_nil ?_) | (refine lexL_skip0 rfl rfl ?_; simp only [Act.put, List.setIfInBounds_toArray, List.set_cons_succ, List.set_cons_zero]))
        refine lexL_ld (⟨be, oe + k * 3 + 2, none⟩) (.int .i64 x.value) rfl rfl rfl (fun w' hw' => run_ld1 (ag_int _) ((hw'.cell (p := ⟨be, oe + k * 3 + 2, none⟩) hbe3).trans V2.out)) ?_
        simp only [Act.put, List.setIfInBounds_toArray, List.set_cons_succ, List.set_cons_zero]
        repeat (first | (refine lexL_q0 rfl ?_; go_big_quiet_step (fail); refine wpQuiet_nil ?_) | (refine lexL_skip0 rfl rfl ?_; simp only [Act.put, List.setIfInBounds_toArray, List.set_cons_succ, List.set_cons_zero]))
        refine lexL_e rfl ?_
        go_wp2_with fail
        refine lexL_go hz.drew ?_
        repeat (first | (refine lexL_q0 rfl ?_; go_big_quiet_step (fail); refine wpQuiet_nil ?_) | (refine lexL_skip0 rfl rfl ?_; simp only [Act.put, List.setIfInBounds_toArray, List.set_cons_succ, List.set_cons_zero]))
        refine lexL_e rfl ?_
        go_wp2_with fail
        refine lexL_go hza ?_
        repeat (first | (refine lexL_q0 rfl ?_; go_big_quiet_step (fail); refine wpQuiet_nil ?_) | (refine lexL_skip0 rfl rfl ?_; simp only [Act.put, List.setIfInBounds_toArray, List.set_cons_succ, List.set_cons_zero]))
        refine lexL_e rfl ?_
        go_wp2_with (refine wpList_appR (o := ⟨some 60, _, _, _, _, _⟩) encSn_len encSn_one (.agg #[.int .i64 0, .int .i64 0, .int .i64 0, .int .i64 0]) 32 _ _ 28 75 W3.heap.size (s.sent ++ snds idx 0 (r.l.take k)) [⟨idx, (q : Int), x.to, x.value⟩] (some ⟨wr.drew.heap.size, 0, none⟩) 1 1 (.slice A5 n5 c5) (n5 + 1) rfl rfl Tryd.underlying28 infoSn' rfl (by omega) rfl rfl (hO5.ext ha) hone (by rw [H5.out]) (by rw [H5.out]; omega) (by rw [H5.out]; omega) (Nat.le_trans hsz hasz) ?_; intro A9 c9 w9 hO9 hgr9 hat9 hc91 hc92)
        have hO6a := hO6.ext ha
        have hO69 := hO6a.kept hgr9 (by
          rcases Option.eq_none_or_eq_some (Value.slice A6 n6 c6).ownBlock with h0 | ⟨b, h0⟩
          · exact .inl h0
          · exact .inr (fun e => hdis b (by rw [← e, h0]) h0))
        have hdis9 : ∀ o, (Value.slice A9 (n5 + 1) c9).ownBlock = some o → (Value.slice A6 n6 c6).ownBlock ≠ some o := fun o ho e => by
          rcases hat9 with h | h
          · rw [h] at ho; exact hdis o ho e
          · rw [h] at ho; cases ho; exact Nat.lt_irrefl _ (World.ownsRow.lt hO6a _ e).2
        have hz9 : Below W3.heap.size W3 w9 := hza.grown hgr9 (Nat.le_trans hsz hasz) (fun b hb => (World.ownsRow.lt hO5 b hb).1)
        refine lexL_go hz9 ?_
        repeat (first | (refine lexL_q0 rfl ?_; go_big_quiet_step (fail); refine wpQuiet_nil ?_) | (refine lexL_skip0 rfl rfl ?_; simp only [Act.put, List.setIfInBounds_toArray, List.set_cons_succ, List.set_cons_zero]))
        refine lexL_nil ?_
        go_wp2
        go_roundw
        case rel =>
          refine ⟨k + 1, A9, n5 + 1, c9, A6, n6, c6, rfl, rfl, ?_, by go_num, by omega, by omega, by omega, ?_, ?_, hdis9, hz9⟩
          · rw [HTK.out, cntS_snoc, if_pos HK1.out, ← HQ.out]
            rfl
          · rw [HTK.out, snds_snoc, if_pos HK1.out, ← List.append_assoc, ← HQ.out, Nat.zero_add]
            exact hO9
          · rw [HTK.out, outsE_snoc, if_pos HK1.out, List.append_nil]
            exact hO69
        case measure => simp [intOf]; omega
      · have d1 : (x.kind == 1) = false := by simpa using hk1
        have HK1 := Lib.hid hk1
        clear hk1 hkd
        have ha : Below wr.heap.size wr (wr.alloc (.cells #[.int .i64 idx, .int .i64 x.value] 77)) := (Below.refl _ wr).alloc (Nat.le_refl _) _
        have hone : Recs encOu (fun _ => True) (wr.alloc (.cells #[.int .i64 idx, .int .i64 x.value] 77)) (.slice (some ⟨wr.heap.size, 0, none⟩) 1 1) [⟨idx, x.value⟩] := ⟨_, 1, rfl, by simp, by simp [maxLen], Cs.lit _ _ _ _ _ trivial rfl⟩
        have hasz := ha.size
        go_upto_region 11 with fail
        go_wp2_with (refine wpList_appR (o := ⟨some 72, _, _, _, _, _⟩) encOu_len encOu_one (.agg #[.int .i64 0, .int .i64 0]) 16 _ _ 29 77 W3.heap.size (s.outs ++ outsE idx (r.l.take k)) [⟨idx, x.value⟩] (some ⟨wr.heap.size, 0, none⟩) 1 1 (.slice A6 n6 c6) (n6 + 1) rfl rfl Tryd.underlying29 infoOu' rfl (by omega) rfl rfl (hO6.ext ha) hone (by rw [H6.out]) (by rw [H6.out]; omega) (by rw [H6.out]; omega) (by omega) ?_; intro A9 c9 w9 hO9 hgr9 hat9 hc91 hc92)
        have hO5a := hO5.ext ha
        have hO59 := hO5a.kept hgr9 (by
          rcases Option.eq_none_or_eq_some (Value.slice A5 n5 c5).ownBlock with h0 | ⟨b, h0⟩
          · exact .inl h0
          · exact .inr (fun e => hdis b h0 (by rw [← e, h0])))
        have hdis9 : ∀ o, (Value.slice A5 n5 c5).ownBlock = some o → (Value.slice A9 (n6 + 1) c9).ownBlock ≠ some o := fun o ho e => by
          rcases hat9 with h | h
          · rw [h] at e; exact hdis o ho e
          · rw [h] at e; cases e; exact Nat.lt_irrefl _ (World.ownsRow.lt hO5a _ ho).2
        have hz9 : Below W3.heap.size W3 w9 := (hz.trans (ha.mono hsz)).grown hgr9 (Nat.le_trans hsz hasz) (fun b hb => (World.ownsRow.lt hO6 b hb).1)
        go_roundw
        case rel =>
          refine ⟨k + 1, A5, n5, c5, A9, n6 + 1, c9, rfl, rfl, ?_, by go_num, by omega, by omega, by omega, ?_, ?_, hdis9, hz9⟩
          · rw [HTK.out, cntS_snoc, if_neg HK1.out, HQ.out]
            rfl
          · rw [HTK.out, snds_snoc, if_neg HK1.out, List.append_nil]
            exact hO59
          · rw [HTK.out, outsE_snoc, if_neg HK1.out, ← List.append_assoc]
            exact hO9
        case measure => simp [intOf]; omega
    · obtain rfl : k = ne := by omega
      have htk : r.l.take k = r.l := List.take_of_length_le (by have := HE.out; omega)
      rw [htk] at hO5 hO6 ⊢
      clear htk
      have R0r := Lib.hid ((hz.block w.heap.size (by omega)).trans R03.out)
      have R2r := Lib.hid ((hz.block (w.heap.size + 2) (by omega)).trans R23.out)
      have q2 : wr.cell? ⟨w.heap.size, 2, none⟩ = some (.slice A3 n3 c3) := row_cell R0r.out 2 _ rfl
      have g2 : wr.frozen? ⟨w.heap.size, 2, none⟩ = false := frozen_of_row _ _ _ _ _ R0r.out
      have q3 : wr.cell? ⟨w.heap.size, 3, none⟩ = some (.slice A4 n4 c4) := row_cell R0r.out 3 _ rfl
      have g3 : wr.frozen? ⟨w.heap.size, 3, none⟩ = false := frozen_of_row _ _ _ _ _ R0r.out
      obtain ⟨W5, hW5⟩ : ∃ W5, W5 = (wr.setCell ⟨w.heap.size, 2, none⟩ (.slice A5 n5 c5)).setCell ⟨w.heap.size, 3, none⟩ (.slice A6 n6 c6) := ⟨_, rfl⟩
      have k5 : wr.grownBy W5 (some w.heap.size) := by rw [hW5]; exact grown_set (grown_set (grown_refl _ _))
      have R05 := Lib.hid (show W5.heap[w.heap.size]? = some (.cells #[.slice B1 m1 d1, .slice A2 n2 c2, .slice A5 n5 c5, .slice A6 n6 c6] 31 (0, 0)) by rw [hW5]; exact heap_setCell_same _ _ _ _ _ _ (heap_setCell_same _ _ _ _ _ _ R0r.out))
      have R25 := Lib.hid ((k5.block (w.heap.size + 2) (by omega) (by simp)).trans R2r.out)
      have s5' := k5.size
      go_upto_region 13 with fail
      rw [← hW5]
      clear hW5 q2 g2 q3 g3
      try simp only [Act.put]
      go_wp2_with (first | (refine wpList_load_row rfl 31 _ rfl _ rfl 31 _ (0,0) _ R05.out Tryd.underlying31 rfl (by kernel_rfl) ?_) | (refine wpList_store_row rfl 31 _ _ rfl (w.heap.size + 2) 31 _ _ rfl rfl R25.out (by kernel_rfl) rfl (by simp [Value.oneCell']) ?_))
      refine bodyPost_ret (results_c rfl rfl (run_ld_block (setRow_heap _ _ _ _ _ _ R25.out) Tryd.underlying31 rfl (by kernel_rfl))) rfl ?_
      have k6 := grown_setRow W5 (w.heap.size + 2) #[.slice B1 m1 d1, .slice A2 n2 c2, .slice A5 n5 c5, .slice A6 n6 c6]
      have kk : ∀ (b : Nat), b < wr.heap.size → b ≠ w.heap.size → b ≠ w.heap.size + 2 → (W5.setRow (w.heap.size + 2) #[.slice B1 m1 d1, .slice A2 n2 c2, .slice A5 n5 c5, .slice A6 n6 c6]).heap[b]? = wr.heap[b]? := fun b hb h1 h2 => (k6.block b (by omega) (by simp; omega)).trans (k5.block b hb (by simp; omega))
      have hbf : Below w.heap.size w (W5.setRow (w.heap.size + 2) #[.slice B1 m1 d1, .slice A2 n2 c2, .slice A5 n5 c5, .slice A6 n6 c6]) := ((HB3.out.trans (hz.mono (by omega))).grown k5 (by omega) (fun b hb => by cases hb; exact Nat.le_refl _)).grown k6 (by omega) (fun b hb => by cases hb; omega)
      have hle := cntS_le r.l
      have hol := outsE_len idx r.l
      have hel := HE.out
      refine ⟨⟨r.cells, s.evs, s.sent ++ snds idx 0 r.l, s.outs ++ outsE idx r.l⟩, B1, m1, d1, A2, n2, c2, A5, n5, c5, A6, n6, c6, rfl, ⟨r, ok, hrn, rfl⟩, ⟨?_, ?_, ?_, ?_⟩, hci, ?_, ?_, hbf⟩
      · exact ((HC3.out.ext hz).keep (fun b hb h => by have h2 : W.heap.size ≤ b := h; exact kk b hb (by omega) (by omega))).mono (fun b _ h => by have h2 : W.heap.size ≤ b := h; omega)
      · exact hM.2.ext hbf
      · exact (hO5.recs.keep (fun b hb h => kk b hb (by have := h.1; omega) (by have := h.1; omega))).mono (fun b _ h => by have := h.1; omega)
      · exact (hO6.recs.keep (fun b hb h => kk b hb (by have := h.1; omega) (by have := h.1; omega))).mono (fun b _ h => by have := h.1; omega)
      · show (s.sent ++ snds idx 0 r.l).length ≤ s.sent.length + 8
        rw [List.length_append, snds_len]
        omega
      · show (s.outs ++ outsE idx r.l).length ≤ s.outs.length + 8
        rw [List.length_append]
        omega
end Go.Proofs.YtiblijmngokcgaaDoor
