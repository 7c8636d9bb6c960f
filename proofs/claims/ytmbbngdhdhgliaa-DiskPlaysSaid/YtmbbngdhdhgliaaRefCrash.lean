/-
  The document's disk: Crash and Same.
-/
import Derived.Test.YtmbbngdhdhgliaaRefDisk
namespace Go.Proofs.Ytmbbngdhdhgliaa
open Go.RowKit
set_option maxRecDepth 100000
set_option linter.unusedVariables false

/-- files that are appended: the row of the call's own, and the bytes elsewhere -/
def FilOwn (base : Nat) (w : World) (v : Value) (fl : List Fil) : Prop := ∃ xs, OwnR encF 2 w base 48 v xs ∧ xs.length = fl.length ∧ ∀ (i : Nat) (x : FV) (f : Fil), xs[i]? = some x → fl[i]? = some f → FOk (fun b => base ≤ b ∧ v.ownBlock ≠ some b) w x f
theorem FilOwn.nil_ (base : Nat) (w : World) : FilOwn base w (.slice none 0 0) [] := ⟨[], OwnR.nil_ _ _ _, rfl, fun i x f hx => by simp at hx⟩
theorem FilOwn.dsk {base : Nat} {w : World} {v : Value} {fl : List Fil} (h : FilOwn base w v fl) : Dsk (base ≤ ·) w v fl := by
  obtain ⟨xs, h1, h2, h3⟩ := h
  exact ⟨xs, h1.recs.mono (fun _ _ h => h.1), h2, fun i x f hx hf => (h3 i x f hx hf).mono (fun _ _ h => h.1)⟩
theorem FilOwn.len {base : Nat} {w : World} {A : Option Addr} {n c : Nat} {fl : List Fil} (h : FilOwn base w (.slice A n c) fl) : fl.length = n ∧ n ≤ c ∧ c ≤ 9223372036854775807 := h.dsk.len
theorem FilOwn.ext {base : Nat} {w w' : World} {v : Value} {fl : List Fil} (h : FilOwn base w v fl) (hb : Below w.heap.size w w') : FilOwn base w' v fl := by
  obtain ⟨xs, h1, h2, h3⟩ := h
  exact ⟨xs, h1.ext hb, h2, fun i x f hx hf => (h3 i x f hx hf).ext hb⟩
/-- a block below base may change -/
theorem FilOwn.kept {base g : Nat} {w w' : World} {v : Value} {fl : List Fil} (h : FilOwn base w v fl) (hg : w.grownBy w' (some g)) (hlt : g < base) : FilOwn base w' v fl := by
  obtain ⟨xs, h1, h2, h3⟩ := h
  refine ⟨xs, h1.kept hg ?_, h2, fun i x f hx hf => (h3 i x f hx hf).keep (fun b hb hs => hg.block b hb (fun e => by cases e; omega))⟩
  rcases Option.eq_none_or_eq_some v.ownBlock with h0 | ⟨m, h0⟩
  · exact .inl h0
  · refine .inr (fun e => ?_)
    rw [h0] at e
    cases e
    have := (World.ownsRow.lt h1 _ h0).1
    omega
theorem fok_keep {base : Nat} {w w' : World} {v v' : Value} {x : FV} {f : Fil} (h : FOk (fun b => base ≤ b ∧ v.ownBlock ≠ some b) w x f) (hg : w.grownBy w' v.ownBlock) (hat : v'.ownBlock = v.ownBlock ∨ v'.ownBlock = some w.heap.size) :
    FOk (fun b => base ≤ b ∧ v'.ownBlock ≠ some b) w' x f := by
  have h1 : FOk (fun b => base ≤ b ∧ v.ownBlock ≠ some b ∧ b < w.heap.size) w x f := h.mono (fun b hb hs => ⟨hs.1, hs.2, hb⟩)
  refine (h1.keep (fun b hb hs => hg.block b hb (fun e => hs.2.1 e.symm))).mono (fun b _ hs => ⟨hs.1, fun e => ?_⟩)
  rcases hat with h2 | h2
  · exact hs.2.1 (h2.symm.trans e)
  · rw [h2] at e
    cases e
    exact Nat.lt_irrefl _ hs.2.2
theorem FilOwn.push {base : Nat} {w w' : World} {v v' : Value} {fl : List Fil} {xs : List FV} (hx : xs.length = fl.length ∧ ∀ (i : Nat) (x : FV) (f : Fil), xs[i]? = some x → fl[i]? = some f → FOk (fun b => base ≤ b ∧ v.ownBlock ≠ some b) w x f)
    (x : FV) (f : Fil) (h2 : FOk (fun b => base ≤ b ∧ v.ownBlock ≠ some b) w x f) (hown : OwnR encF 2 w' base 48 v' (xs ++ [x])) (hg : w.grownBy w' v.ownBlock) (hat : v'.ownBlock = v.ownBlock ∨ v'.ownBlock = some w.heap.size) : FilOwn base w' v' (fl ++ [f]) := by
  refine ⟨_, hown, by simp [hx.1], fun i x' f' hx' hf' => ?_⟩
  rcases Nat.lt_or_ge i xs.length with hi | hi
  · rw [List.getElem?_append_left hi] at hx'
    rw [List.getElem?_append_left (by omega)] at hf'
    exact fok_keep (hx.2 i x' f' hx' hf') hg hat
  · rw [List.getElem?_append_right hi] at hx'
    rw [List.getElem?_append_right (by omega)] at hf'
    have hi' : i - xs.length = 0 := by
      rcases Nat.eq_zero_or_pos (i - xs.length) with h | h
      · exact h
      · rw [List.getElem?_eq_none (by simp; omega)] at hx'
        cases hx'
    rw [hi'] at hx'
    rw [← hx.1, hi'] at hf'
    cases hx'
    cases hf'
    exact fok_keep h2 hg hat
theorem crash_take (fs : List Fil) (ts : List Tear) (j : Nat) (f : Fil) (h : fs[j]? = some f) : (crashL fs ts).take (j + 1) = (crashL fs ts).take j ++ [crashF ts j f] := by
  rw [List.take_add_one]
  congr 1
  unfold crashL
  rw [List.getElem?_mapIdx, h]
  rfl

set_option maxHeartbeats 4000000 in
theorem refcrash_any (A : Option Addr) (n c : Nat) (fs : List Fil) (S : Nat → Prop) (w : World) (hD : Dsk S w (.slice A n c) fs) (hn : n ≤ 1000) (At : Option Addr) (nt ct : Nat) (ts : List Tear) (St : Nat → Prop) (hT : Trs St w (.slice At nt ct) ts) (hlen : ∀ f ∈ fs, f.s.length + f.p.length ≤ 3000000) (hlt2 : ∀ t ∈ ts, t.lost.length ≤ 3000000) :
    Calls Try.prog 12 #[.agg #[.slice A n c], .slice At nt ct] w fun e w' => ∃ A' c', e = .returned (.agg #[.slice A' n c']) ∧ Dsk (w.heap.size ≤ ·) w' (.slice A' n c') (crashL fs ts) ∧ Below w.heap.size w w' := by
  have hD0 := hD.lo
  have hT0 := hT.mono (S' := (· < w.heap.size)) (fun _ h _ => h)
  obtain ⟨hd1, hd2, hd3⟩ := hD.len
  obtain ⟨ht1, ht2, ht3⟩ := hT.len
  have HD1 := Lib.hid hd1
  have HT1 := Lib.hid ht1
  have HLen := Lib.hid hlen
  have HLt := Lib.hid hlt2
  clear hd1 ht1 hlen hlt2
  obtain ⟨W0, hW0, hbW0, hsW0, hw0, hw1⟩ := two_boxes w (.slice A n c)
  obtain ⟨W, hW⟩ : ∃ W, W = W0.alloc (.cells #[.slice none 0 0] 24) := ⟨_, rfl⟩
  have haW : Below W0.heap.size W0 W := by rw [hW]; exact (Below.refl _ _).alloc (Nat.le_refl _) _
  have hw2 : W.heap[W0.heap.size]? = some (.cells #[.slice none 0 0] 24 (0, 0)) := by rw [hW]; exact heap_alloc_new _ _
  have r0 := (haW.block w.heap.size (by omega)).trans hw0
  have r1 := (haW.block (w.heap.size + 1) (by omega)).trans hw1
  have bW := Below.ext hbW0 haW
  have hsW : W.heap.size = w.heap.size + 3 := by rw [hW]; simp [hsW0]
  rw [hsW0] at hw2
  have R0 := Lib.hid r0
  have R1 := Lib.hid r1
  have R2 := Lib.hid hw2
  have HsW := Lib.hid hsW
  go_enter Try.func12, Try.ntmps12
  go_wp2_with fail
  rw [show w.heap.size + 1 + 1 = w.heap.size + 2 by omega]
  rw [← hW0, ← hW]
  clear hW0 hW hbW0 hsW0 haW hw0 hw1 hw2 r0 r1 hsW
  have ag22 : ∀ w : World, (isAgg 22).run Try.prog w = .ok false w := fun w => by simp [isAgg, run_underlying Try.underlying22]
  have ag30 : ∀ w : World, (isAgg 30).run Try.prog w = .ok false w := fun w => by simp [isAgg, run_underlying Try.underlying30]
  have A22 := Lib.hid ag22
  have A30 := Lib.hid ag30
  clear ag22 ag30
  go_loopw [6] (fun v wr => ∃ (j : Nat) (A' : Option Addr) (c' : Nat), v = .int .i64 j ∧ j ≤ n ∧ wr.heap[w.heap.size + 2]? = some (.cells #[.slice A' j c'] 24 (0, 0)) ∧ FilOwn (w.heap.size + 3) wr (.slice A' j c') ((crashL fs ts).take j) ∧ Below w.heap.size w wr ∧ W.grownBy wr (some (w.heap.size + 2))) (fun v _ => n - (intOf v).toNat)
  case atStart => exact ⟨0, none, 0, rfl, by omega, R2.out, by rw [List.take_zero]; exact FilOwn.nil_ _ _, bW, grown_refl' _ _⟩
  case round =>
    obtain ⟨j, A', c', rfl, hj, ho, hF, hbr, hgr⟩ := hrel
    have HO := Lib.hid ho
    have hO : w.heap.size + 2 < wr.heap.size := (Array.getElem?_eq_some_iff.1 ho).1
    clear ho
    have q0' : wr.cell? ⟨w.heap.size, 0, none⟩ = some (.slice A n c) := by
      have := (hgr.block w.heap.size (by have := HsW.out; omega) (by simp)).trans R0.out
      rw [cell_of_row _ _ _ _ _ _ this]; rfl
    by_cases hlt : j < n
    · obtain ⟨b, off, x, f, rfl, hbl, hff, hx, c0, c1⟩ := hD0.at_ hlt
      have HF := Lib.hid hff
      have Hp := Lib.hid hx.p.len.1
      have Hsl := Lib.hid hx.s.len.1
      have hpn : x.n1 + x.n2 ≤ 3000000 := by have h1 := HLen.out f (List.mem_of_getElem? hff); have := hx.s.len.1; have := hx.p.len.1; omega
      have c0' := (hbr.cell (p := ⟨b, off + j * 2, none⟩) hbl).trans c0
      have c1' := (hbr.cell (p := ⟨b, off + j * 2 + 1, none⟩) hbl).trans c1
      have hbl' := block_lt_of_cell c0'
      have hwlt : w.heap.size < wr.heap.size := by omega
      clear hff c0 c1
      by_cases hjt : j < nt
      · have dt : decide (j < nt) = true := by simpa using hjt
        obtain ⟨bt, ot, yt, tt, rfl, hbt, htt, hky, hlo, e0, e1⟩ := hT0.at_ hjt
        have e0' := (hbr.cell (p := ⟨bt, ot + j * 2, none⟩) hbt).trans e0
        have e1' := (hbr.cell (p := ⟨bt, ot + j * 2 + 1, none⟩) hbt).trans e1
        have hbt' := block_lt_of_cell e0'
        have hto : tearOf ts j = tt := by unfold tearOf; rw [htt]; rfl
        have HT1' : (tearOf ts j).keep = yt.keep := by rw [hto, hky]
        have HT2' : (tearOf ts j).lost = tt.lost := by rw [hto]
        have hyl : yt.n ≤ 3000000 := by have h1 := HLt.out tt (List.mem_of_getElem? htt); have := hlo.len.1; omega
        have HHT1 := Lib.hid HT1'
        have HHT2 := Lib.hid HT2'
        clear htt hky hto e0 e1 HT1' HT2'
        go_wp2_with fail
        obtain ⟨W3, hW3⟩ : ∃ W3, W3 = (wr.alloc (.cells #[.int .i64 yt.keep, .slice yt.A yt.n yt.c] 39)).alloc (.cells #[.slice x.A1 x.n1 x.c1, .slice x.A2 x.n2 x.c2] 48) := ⟨_, rfl⟩
        have hbW3 : Below wr.heap.size wr W3 := by rw [hW3]; exact ((Below.refl _ _).alloc (Nat.le_refl _) _).alloc (by simp) _
        have hsW3 : W3.heap.size = wr.heap.size + 2 := by rw [hW3]; simp
        have hrT : W3.heap[wr.heap.size]? = some (.cells #[.int .i64 yt.keep, .slice yt.A yt.n yt.c] 39 (0, 0)) := by rw [hW3]; exact (((Below.refl _ _).alloc (Nat.le_refl _) _).block wr.heap.size (by simp)).trans (heap_alloc_new wr _)
        have hrF : W3.heap[wr.heap.size + 1]? = some (.cells #[.slice x.A1 x.n1 x.c1, .slice x.A2 x.n2 x.c2] 48 (0, 0)) := by
          rw [hW3]
          have := heap_alloc_new (wr.alloc (.cells #[.int .i64 yt.keep, .slice yt.A yt.n yt.c] 39)) (.cells #[.slice x.A1 x.n1 x.c1, .slice x.A2 x.n2 x.c2] 48)
          rw [World.size_alloc] at this
          exact this
        have hrO := (hbW3.block (w.heap.size + 2) hO).trans HO.out
        rw [← hW3]
        have HsW3 := Lib.hid hsW3
        have HrT := Lib.hid hrT
        have HrF := Lib.hid hrF
        have HrO := Lib.hid hrO
        clear hW3 hsW3 hrT hrF hrO q0' c0' c1'
        have bw3 := Below.ext hbr hbW3
        have hcell : ∀ (w' : World) (g o : Nat) (cs : Array Value) (e : TypeId) (v : Value), w'.heap[g]? = some (.cells cs e (0, 0)) → cs[o]? = some v → w'.cell? ⟨g, o, none⟩ = some v := fun w' g o cs e v h hv => by rw [cell_of_row _ _ _ _ _ _ h]; exact hv
        have HC := Lib.hid hcell
        clear hcell
        refine wp_region_tail (fun w' => w'.heap[w.heap.size + 2]? = some (.cells #[.slice A' j c'] 24 (0, 0)) ∧ w'.heap[wr.heap.size]? = some (.cells #[.int .i64 yt.keep, .slice yt.A yt.n yt.c] 39 (0, 0)) ∧ w'.heap[wr.heap.size + 1]? = some (.cells #[.slice x.A1 x.n1 x.c1, .slice x.A2 x.n2 x.c2] 48 (0, 0))) 13 (by kernel_rfl) (by kernel_rfl) (by kernel_rfl) (by decide) ⟨HrO.out, HrT.out, HrF.out⟩ ?_
        simp only [List.take_succ_cons, List.take_zero, List.drop_succ_cons, List.drop_zero]
        repeat (first | (refine lexL_q0 rfl ?_; go_big_quiet_step (fail); refine wpQuiet_nil ?_) | (refine lexL_skip0 rfl rfl ?_; simp only [Act.put, List.setIfInBounds_toArray, List.set_cons_succ, List.set_cons_zero]))
        refine lexL_ld (⟨w.heap.size + 2, 0, none⟩) (.slice A' j c') rfl rfl rfl (fun w' hS => run_ld1 (A22.out _) (HC.out w' _ 0 _ _ _ hS.1 rfl)) ?_
        simp only [Act.put, List.setIfInBounds_toArray, List.set_cons_succ, List.set_cons_zero]
        repeat (first | (refine lexL_q0 rfl ?_; go_big_quiet_step (fail); refine wpQuiet_nil ?_) | (refine lexL_skip0 rfl rfl ?_; simp only [Act.put, List.setIfInBounds_toArray, List.set_cons_succ, List.set_cons_zero]))
        refine lexL_ld (⟨wr.heap.size + 1, 0, none⟩) (.slice x.A1 x.n1 x.c1) rfl rfl rfl (fun w' hS => run_ld1 (A30.out _) (HC.out w' _ 0 _ _ _ hS.2.2 rfl)) ?_
        simp only [Act.put, List.setIfInBounds_toArray, List.set_cons_succ, List.set_cons_zero]
        repeat (first | (refine lexL_q0 rfl ?_; go_big_quiet_step (fail); refine wpQuiet_nil ?_) | (refine lexL_skip0 rfl rfl ?_; simp only [Act.put, List.setIfInBounds_toArray, List.set_cons_succ, List.set_cons_zero]))
        have hx3 := (hx.s.ext bw3).ext (w' := W3.drew) (Below.refl _ _).drew
        refine lexL_e rfl ?_
        refine wpList_appR encB_len encB_one (.int .u8 0) 1 _ _ 30 5 W3.heap.size [] f.s x.A1 x.n1 x.c1 (.slice none 0 0) x.n1 rfl rfl Try.underlying30 infoB rfl (by omega) rfl rfl (OwnR.nil_ _ _ _) hx3 (by simp) (by simp; omega) (by simp; omega) (Nat.le_refl _) ?_
        intro A5 c5 w5 hown5 hgr5 hat5 hc51 hc52
        have b5 : Below W3.heap.size W3 w5 := ⟨hgr5.os, hgr5.tape, hgr5.output, hgr5.size, fun i hi => hgr5.block i hi (by simp [Value.ownBlock])⟩
        rw [List.nil_append] at hown5
        have hls : ∀ b, b < W3.heap.size → ∀ w', Below W3.heap.size W3 w' → w'.heap[b]? = W3.heap[b]? := fun b hb w' h => h.block b hb
        have HLS := Lib.hid hls
        have hS5 := fun (w' : World) (h : Below W3.heap.size W3 w') => (⟨(h.block (w.heap.size + 2) (by have := HsW3.out; omega)).trans HrO.out, (h.block wr.heap.size (by have := HsW3.out; omega)).trans HrT.out, (h.block (wr.heap.size + 1) (by have := HsW3.out; omega)).trans HrF.out⟩ : w'.heap[w.heap.size + 2]? = some (.cells #[.slice A' j c'] 24 (0, 0)) ∧ w'.heap[wr.heap.size]? = some (.cells #[.int .i64 yt.keep, .slice yt.A yt.n yt.c] 39 (0, 0)) ∧ w'.heap[wr.heap.size + 1]? = some (.cells #[.slice x.A1 x.n1 x.c1, .slice x.A2 x.n2 x.c2] 48 (0, 0)))
        have HS5 := Lib.hid hS5
        clear hls hS5 hgr5 hat5
        refine lexL_go (HS5.out w5 b5) ?_
        simp only [Act.put, List.setIfInBounds_toArray, List.set_cons_succ, List.set_cons_zero]
        repeat (first | (refine lexL_q0 rfl ?_; go_big_quiet_step (fail); refine wpQuiet_nil ?_) | (refine lexL_skip0 rfl rfl ?_; simp only [Act.put, List.setIfInBounds_toArray, List.set_cons_succ, List.set_cons_zero]))
        refine lexL_ld (⟨wr.heap.size + 1, 1, none⟩) (.slice x.A2 x.n2 x.c2) rfl rfl rfl (fun w' hS => run_ld1 (A30.out _) (HC.out w' _ 1 _ _ _ hS.2.2 rfl)) ?_
        simp only [Act.put, List.setIfInBounds_toArray, List.set_cons_succ, List.set_cons_zero]
        repeat (first | (refine lexL_q0 rfl ?_; go_big_quiet_step (fail); refine wpQuiet_nil ?_) | (refine lexL_skip0 rfl rfl ?_; simp only [Act.put, List.setIfInBounds_toArray, List.set_cons_succ, List.set_cons_zero]))
        refine lexL_ld (⟨wr.heap.size, 0, none⟩) (.agg #[.int .i64 yt.keep, .slice yt.A yt.n yt.c]) rfl rfl rfl (fun w' hS => run_ld_block hS.2.1 Try.underlying39 rfl (by kernel_rfl)) ?_
        simp only [Act.put, List.setIfInBounds_toArray, List.set_cons_succ, List.set_cons_zero]
        repeat (first | (refine lexL_q0 rfl ?_; go_big_quiet_step (fail); refine wpQuiet_nil ?_) | (refine lexL_skip0 rfl rfl ?_; simp only [Act.put, List.setIfInBounds_toArray, List.set_cons_succ, List.set_cons_zero]))
        refine lexL_e rfl ?_
        go_wp2_with fail
        refine (torn_any x.A2 x.n2 x.c2 f.p _ yt.keep yt.A yt.n yt.c tt.lost _ w5 ((hx.p.ext bw3).ext b5) ((hlo.ext bw3).ext b5) (by omega) (by omega)).mono ?_
        rintro e w6 ⟨A6, c6, rfl, hown6, hb6⟩
        have b6 := Below.ext b5 hb6
        have hkp := keepN_le f.p yt.keep
        have hpl := Hp.out
        have s5 := b5.size
        go_wp2_with fail
        refine lexL_go (HS5.out w6 b6) ?_
        repeat (first | (refine lexL_q0 rfl ?_; go_big_quiet_step (fail); refine wpQuiet_nil ?_) | (refine lexL_skip0 rfl rfl ?_; simp only [Act.put, List.setIfInBounds_toArray, List.set_cons_succ, List.set_cons_zero]))
        have hown5' := hown5.ext hb6
        have hsl := Hsl.out
        refine lexL_e rfl ?_
        refine wpList_appR encB_len encB_one (.int .u8 0) 1 _ _ 30 5 W3.heap.size f.s (tornL f.p yt.keep tt.lost) A6 (keepN f.p yt.keep) c6 (.slice A5 x.n1 c5) (x.n1 + keepN f.p yt.keep) rfl rfl Try.underlying30 infoB rfl (by omega) rfl rfl hown5' hown6.recs (by omega) (by omega) (by omega) (by have := b6.size; omega) ?_
        intro A7 c7 w7 hown7 hgr7 hat7 hc71 hc72
        have b7 : Below W3.heap.size W3 w7 := hown5'.grow hgr7 b6 (Nat.le_refl _) b6.size
        refine lexL_go (HS5.out w7 b7) ?_
        simp only [Act.put, List.setIfInBounds_toArray, List.set_cons_succ, List.set_cons_zero]
        repeat (first | (refine lexL_q0 rfl ?_; go_big_quiet_step (fail); refine wpQuiet_nil ?_) | (refine lexL_skip0 rfl rfl ?_; simp only [Act.put, List.setIfInBounds_toArray, List.set_cons_succ, List.set_cons_zero]))
        have ha8 : ∀ o, Below w7.heap.size w7 (w7.alloc o) := fun o => (Below.refl _ _).alloc (Nat.le_refl _) o
        have b8 := Below.ext b7 (ha8 (.cells #[.slice A7 (x.n1 + keepN f.p yt.keep) c7, .slice none 0 0] 48))
        have hone : Recs encF (fun _ => True) (w7.alloc (.cells #[.slice A7 (x.n1 + keepN f.p yt.keep) c7, .slice none 0 0] 48)) (.slice (some ⟨w7.heap.size, 0, none⟩) 1 1) [⟨A7, x.n1 + keepN f.p yt.keep, c7, none, 0, 0⟩] := ⟨_, 1, rfl, by simp, by simp [maxLen], Cs.lit _ _ _ _ _ trivial rfl⟩
        refine lexL_e rfl ?_
        go_wp2_with fail
        refine lexL_go (HS5.out w7 b7) ?_
        repeat (first | (refine lexL_q0 rfl ?_; go_big_quiet_step (fail); refine wpQuiet_nil ?_) | (refine lexL_skip0 rfl rfl ?_; simp only [Act.put, List.setIfInBounds_toArray, List.set_cons_succ, List.set_cons_zero]))
        refine lexL_e rfl ?_
        go_wp2_with fail
        refine lexL_go (HS5.out _ b8) ?_
        repeat (first | (refine lexL_q0 rfl ?_; go_big_quiet_step (fail); refine wpQuiet_nil ?_) | (refine lexL_skip0 rfl rfl ?_; simp only [Act.put, List.setIfInBounds_toArray, List.set_cons_succ, List.set_cons_zero]))
        have b8r := Below.ext hbW3 b8
        have hlk := hF.len
        obtain ⟨xs, hxo, hxl, hxe⟩ := hF
        have hlx : xs.length = j := by omega
        have Hlx := Lib.hid hlx
        have hxo8 := hxo.ext b8r
        have hrow : ∀ b, (Value.slice A' j c').ownBlock = some b → w.heap.size + 3 ≤ b ∧ b < wr.heap.size := fun b e => World.ownsRow.lt hxo _ e
        clear hlx
        refine lexL_e rfl ?_
        refine wpList_appR encF_len encF_one zeroF 48 _ _ 22 48 (w.heap.size + 3) xs [⟨A7, x.n1 + keepN f.p yt.keep, c7, none, 0, 0⟩] (some ⟨w7.heap.size, 0, none⟩) 1 1 (.slice A' j c') (j + 1) rfl rfl Try.underlying22 infoF rfl (by omega) rfl rfl hxo8 hone (by rw [Hlx.out]) (by have := Hlx.out; omega) (by have := Hlx.out; omega) (by have := b8r.size; omega) ?_
        intro A9 c9 w9 hown9 hgr9 hat9 hc91 hc92
        have s8 := b8.size
        have hS9 : w9.heap[w.heap.size + 2]? = some (.cells #[.slice A' j c'] 24 (0, 0)) ∧ w9.heap[wr.heap.size]? = some (.cells #[.int .i64 yt.keep, .slice yt.A yt.n yt.c] 39 (0, 0)) ∧ w9.heap[wr.heap.size + 1]? = some (.cells #[.slice x.A1 x.n1 x.c1, .slice x.A2 x.n2 x.c2] 48 (0, 0)) := by
          have h8 := HS5.out _ b8
          have hs3 := HsW3.out
          exact ⟨(hgr9.block _ (by omega) (fun e => by have := hrow _ e.symm; omega)).trans h8.1, (hgr9.block _ (by omega) (fun e => by have := hrow _ e.symm; omega)).trans h8.2.1, (hgr9.block _ (by omega) (fun e => by have := hrow _ e.symm; omega)).trans h8.2.2⟩
        have hro9 := hS9.1
        refine lexL_go hS9 ?_
        clear hS9
        simp only [Act.put, List.setIfInBounds_toArray, List.set_cons_succ, List.set_cons_zero]
        refine lexL_nil ?_
        have q9 : w9.frozen? ⟨w.heap.size + 2, 0, none⟩ = false := frozen_of_row _ _ _ _ _ hro9
        have q9' : w9.cell? ⟨w.heap.size + 2, 0, none⟩ = some (.slice A' j c') := by rw [cell_of_row _ _ _ _ _ _ hro9]; rfl
        have HRO9 := Lib.hid hro9
        clear hro9
        have hgS : w9.grownBy (w9.setCell ⟨w.heap.size + 2, 0, none⟩ (.slice A9 (j + 1) c9)) (some (w.heap.size + 2)) := grown_set (grown_refl' _ _)
        have hro10 : (w9.setCell ⟨w.heap.size + 2, 0, none⟩ (.slice A9 (j + 1) c9)).heap[w.heap.size + 2]? = some (.cells #[.slice A9 (j + 1) c9] 24 (0, 0)) := heap_setCell_same _ _ _ _ _ _ HRO9.out
        have hfok : FOk (fun b => w.heap.size + 3 ≤ b ∧ (Value.slice A' j c').ownBlock ≠ some b) (w7.alloc (.cells #[.slice A7 (x.n1 + keepN f.p yt.keep) c7, .slice none 0 0] 48)) ⟨A7, x.n1 + keepN f.p yt.keep, c7, none, 0, 0⟩ (crashF ts j f) := by
          refine ⟨?_, Recs.nil_ _ _⟩
          rw [show (crashF ts j f).s = f.s ++ tornL f.p yt.keep tt.lost by unfold crashF; rw [HHT1.out, HHT2.out]]
          exact (hown7.recs.ext (ha8 _)).mono (fun b _ h => ⟨by have := h.1; have := HsW3.out; omega, fun e => by have := (hrow b e).2; have := h.1; have := HsW3.out; omega⟩)
        have hfil := (FilOwn.push ⟨hxl, fun i x' f' hx' hf' => (hxe i x' f' hx' hf').ext b8r⟩ ⟨A7, x.n1 + keepN f.p yt.keep, c7, none, 0, 0⟩ (crashF ts j f) hfok hown9 hgr9 hat9).kept hgS (by omega)
        rw [← crash_take fs ts j f HF.out] at hfil
        have hb9 : Below w.heap.size w w9 := hxo8.grow hgr9 (Below.ext hbr b8r) (by omega) (by have := b8r.size; omega)
        have hb10 := Below.grow hb9 hgS (by omega)
        have hgg : W.grownBy (w9.setCell ⟨w.heap.size + 2, 0, none⟩ (.slice A9 (j + 1) c9)) (some (w.heap.size + 2)) := by
          have h1 := grown_trans' hgr (grown_of_below' b8r)
          refine ⟨hgS.os.trans (hgr9.os.trans h1.os), hgS.tape.trans (hgr9.tape.trans h1.tape), hgS.output.trans (hgr9.output.trans h1.output), Nat.le_trans h1.size (Nat.le_trans hgr9.size hgS.size), fun i hi hne => ?_⟩
          have hi8 : i < (w7.alloc (.cells #[.slice A7 (x.n1 + keepN f.p yt.keep) c7, .slice none 0 0] 48)).heap.size := Nat.lt_of_lt_of_le hi h1.size
          exact (hgS.block i (Nat.lt_of_lt_of_le hi8 hgr9.size) hne).trans ((hgr9.block i hi8 (fun e => by have := hrow _ e.symm; have := HsW.out; omega)).trans (h1.block i hi hne))
        have HFIL := Lib.hid hfil
        have HB10 := Lib.hid hb10
        have HGG := Lib.hid hgg
        have HRO10 := Lib.hid hro10
        clear hfil hb10 hgg hro10 hfok hgS hown9 hgr9 hat9 hown7 hgr7 hat7 hown5 hown5' hown6
        go_wp2_with fail
        rw [Only_normal]
        go_wp2
        go_roundw
        case rel => exact ⟨j + 1, A9, c9, by go_num, by omega, HRO10.out, HFIL.out, HB10.out, HGG.out⟩
        case measure => simp [intOf]; omega
      · have dt : decide (j < nt) = false := by simpa using hjt
        have hto : tearOf ts j = ⟨0, []⟩ := by unfold tearOf; rw [List.getElem?_eq_none (by have := HT1.out; omega)]; rfl
        have HT1' : (tearOf ts j).keep = 0 := by rw [hto]
        have HT2' : (tearOf ts j).lost = [] := by rw [hto]
        have HHT1 := Lib.hid HT1'
        have HHT2 := Lib.hid HT2'
        clear hto HT1' HT2'
        go_wp2_with fail
        obtain ⟨W3, hW3⟩ : ∃ W3, W3 = (wr.alloc (.cells #[.int .i64 0, .slice none 0 0] 39)).alloc (.cells #[.slice x.A1 x.n1 x.c1, .slice x.A2 x.n2 x.c2] 48) := ⟨_, rfl⟩
        have hbW3 : Below wr.heap.size wr W3 := by rw [hW3]; exact ((Below.refl _ _).alloc (Nat.le_refl _) _).alloc (by simp) _
        have hsW3 : W3.heap.size = wr.heap.size + 2 := by rw [hW3]; simp
        have hrT : W3.heap[wr.heap.size]? = some (.cells #[.int .i64 0, .slice none 0 0] 39 (0, 0)) := by rw [hW3]; exact (((Below.refl _ _).alloc (Nat.le_refl _) _).block wr.heap.size (by simp)).trans (heap_alloc_new wr _)
        have hrF : W3.heap[wr.heap.size + 1]? = some (.cells #[.slice x.A1 x.n1 x.c1, .slice x.A2 x.n2 x.c2] 48 (0, 0)) := by
          rw [hW3]
          have := heap_alloc_new (wr.alloc (.cells #[.int .i64 0, .slice none 0 0] 39)) (.cells #[.slice x.A1 x.n1 x.c1, .slice x.A2 x.n2 x.c2] 48)
          rw [World.size_alloc] at this
          exact this
        have hrO := (hbW3.block (w.heap.size + 2) hO).trans HO.out
        rw [← hW3]
        have HsW3 := Lib.hid hsW3
        have HrT := Lib.hid hrT
        have HrF := Lib.hid hrF
        have HrO := Lib.hid hrO
        clear hW3 hsW3 hrT hrF hrO q0' c0' c1'
        have bw3 := Below.ext hbr hbW3
        have hcell : ∀ (w' : World) (g o : Nat) (cs : Array Value) (e : TypeId) (v : Value), w'.heap[g]? = some (.cells cs e (0, 0)) → cs[o]? = some v → w'.cell? ⟨g, o, none⟩ = some v := fun w' g o cs e v h hv => by rw [cell_of_row _ _ _ _ _ _ h]; exact hv
        have HC := Lib.hid hcell
        clear hcell
        refine wp_region_tail (fun w' => w'.heap[w.heap.size + 2]? = some (.cells #[.slice A' j c'] 24 (0, 0)) ∧ w'.heap[wr.heap.size]? = some (.cells #[.int .i64 0, .slice none 0 0] 39 (0, 0)) ∧ w'.heap[wr.heap.size + 1]? = some (.cells #[.slice x.A1 x.n1 x.c1, .slice x.A2 x.n2 x.c2] 48 (0, 0))) 13 (by kernel_rfl) (by kernel_rfl) (by kernel_rfl) (by decide) ⟨HrO.out, HrT.out, HrF.out⟩ ?_
        simp only [List.take_succ_cons, List.take_zero, List.drop_succ_cons, List.drop_zero]
        repeat (first | (refine lexL_q0 rfl ?_; go_big_quiet_step (fail); refine wpQuiet_nil ?_) | (refine lexL_skip0 rfl rfl ?_; simp only [Act.put, List.setIfInBounds_toArray, List.set_cons_succ, List.set_cons_zero]))
        refine lexL_ld (⟨w.heap.size + 2, 0, none⟩) (.slice A' j c') rfl rfl rfl (fun w' hS => run_ld1 (A22.out _) (HC.out w' _ 0 _ _ _ hS.1 rfl)) ?_
        simp only [Act.put, List.setIfInBounds_toArray, List.set_cons_succ, List.set_cons_zero]
        repeat (first | (refine lexL_q0 rfl ?_; go_big_quiet_step (fail); refine wpQuiet_nil ?_) | (refine lexL_skip0 rfl rfl ?_; simp only [Act.put, List.setIfInBounds_toArray, List.set_cons_succ, List.set_cons_zero]))
        refine lexL_ld (⟨wr.heap.size + 1, 0, none⟩) (.slice x.A1 x.n1 x.c1) rfl rfl rfl (fun w' hS => run_ld1 (A30.out _) (HC.out w' _ 0 _ _ _ hS.2.2 rfl)) ?_
        simp only [Act.put, List.setIfInBounds_toArray, List.set_cons_succ, List.set_cons_zero]
        repeat (first | (refine lexL_q0 rfl ?_; go_big_quiet_step (fail); refine wpQuiet_nil ?_) | (refine lexL_skip0 rfl rfl ?_; simp only [Act.put, List.setIfInBounds_toArray, List.set_cons_succ, List.set_cons_zero]))
        have hx3 := (hx.s.ext bw3).ext (w' := W3.drew) (Below.refl _ _).drew
        refine lexL_e rfl ?_
        refine wpList_appR encB_len encB_one (.int .u8 0) 1 _ _ 30 5 W3.heap.size [] f.s x.A1 x.n1 x.c1 (.slice none 0 0) x.n1 rfl rfl Try.underlying30 infoB rfl (by omega) rfl rfl (OwnR.nil_ _ _ _) hx3 (by simp) (by simp; omega) (by simp; omega) (Nat.le_refl _) ?_
        intro A5 c5 w5 hown5 hgr5 hat5 hc51 hc52
        have b5 : Below W3.heap.size W3 w5 := ⟨hgr5.os, hgr5.tape, hgr5.output, hgr5.size, fun i hi => hgr5.block i hi (by simp [Value.ownBlock])⟩
        rw [List.nil_append] at hown5
        have hls : ∀ b, b < W3.heap.size → ∀ w', Below W3.heap.size W3 w' → w'.heap[b]? = W3.heap[b]? := fun b hb w' h => h.block b hb
        have HLS := Lib.hid hls
        have hS5 := fun (w' : World) (h : Below W3.heap.size W3 w') => (⟨(h.block (w.heap.size + 2) (by have := HsW3.out; omega)).trans HrO.out, (h.block wr.heap.size (by have := HsW3.out; omega)).trans HrT.out, (h.block (wr.heap.size + 1) (by have := HsW3.out; omega)).trans HrF.out⟩ : w'.heap[w.heap.size + 2]? = some (.cells #[.slice A' j c'] 24 (0, 0)) ∧ w'.heap[wr.heap.size]? = some (.cells #[.int .i64 0, .slice none 0 0] 39 (0, 0)) ∧ w'.heap[wr.heap.size + 1]? = some (.cells #[.slice x.A1 x.n1 x.c1, .slice x.A2 x.n2 x.c2] 48 (0, 0)))
        have HS5 := Lib.hid hS5
        clear hls hS5 hgr5 hat5
        refine lexL_go (HS5.out w5 b5) ?_
        simp only [Act.put, List.setIfInBounds_toArray, List.set_cons_succ, List.set_cons_zero]
        repeat (first | (refine lexL_q0 rfl ?_; go_big_quiet_step (fail); refine wpQuiet_nil ?_) | (refine lexL_skip0 rfl rfl ?_; simp only [Act.put, List.setIfInBounds_toArray, List.set_cons_succ, List.set_cons_zero]))
        refine lexL_ld (⟨wr.heap.size + 1, 1, none⟩) (.slice x.A2 x.n2 x.c2) rfl rfl rfl (fun w' hS => run_ld1 (A30.out _) (HC.out w' _ 1 _ _ _ hS.2.2 rfl)) ?_
        simp only [Act.put, List.setIfInBounds_toArray, List.set_cons_succ, List.set_cons_zero]
        repeat (first | (refine lexL_q0 rfl ?_; go_big_quiet_step (fail); refine wpQuiet_nil ?_) | (refine lexL_skip0 rfl rfl ?_; simp only [Act.put, List.setIfInBounds_toArray, List.set_cons_succ, List.set_cons_zero]))
        refine lexL_ld (⟨wr.heap.size, 0, none⟩) (.agg #[.int .i64 0, .slice none 0 0]) rfl rfl rfl (fun w' hS => run_ld_block hS.2.1 Try.underlying39 rfl (by kernel_rfl)) ?_
        simp only [Act.put, List.setIfInBounds_toArray, List.set_cons_succ, List.set_cons_zero]
        repeat (first | (refine lexL_q0 rfl ?_; go_big_quiet_step (fail); refine wpQuiet_nil ?_) | (refine lexL_skip0 rfl rfl ?_; simp only [Act.put, List.setIfInBounds_toArray, List.set_cons_succ, List.set_cons_zero]))
        refine lexL_e rfl ?_
        go_wp2_with fail
        refine (torn_any x.A2 x.n2 x.c2 f.p _ 0 none 0 0 [] _ w5 ((hx.p.ext bw3).ext b5) (Recs.nil_ (fun _ => True) _) (by omega) (by omega)).mono ?_
        rintro e w6 ⟨A6, c6, rfl, hown6, hb6⟩
        have b6 := Below.ext b5 hb6
        have hkp := keepN_le f.p 0
        have hpl := Hp.out
        have s5 := b5.size
        go_wp2_with fail
        refine lexL_go (HS5.out w6 b6) ?_
        repeat (first | (refine lexL_q0 rfl ?_; go_big_quiet_step (fail); refine wpQuiet_nil ?_) | (refine lexL_skip0 rfl rfl ?_; simp only [Act.put, List.setIfInBounds_toArray, List.set_cons_succ, List.set_cons_zero]))
        have hown5' := hown5.ext hb6
        have hsl := Hsl.out
        refine lexL_e rfl ?_
        refine wpList_appR encB_len encB_one (.int .u8 0) 1 _ _ 30 5 W3.heap.size f.s (tornL f.p 0 []) A6 (keepN f.p 0) c6 (.slice A5 x.n1 c5) (x.n1 + keepN f.p 0) rfl rfl Try.underlying30 infoB rfl (by omega) rfl rfl hown5' hown6.recs (by omega) (by omega) (by omega) (by have := b6.size; omega) ?_
        intro A7 c7 w7 hown7 hgr7 hat7 hc71 hc72
        have b7 : Below W3.heap.size W3 w7 := hown5'.grow hgr7 b6 (Nat.le_refl _) b6.size
        refine lexL_go (HS5.out w7 b7) ?_
        simp only [Act.put, List.setIfInBounds_toArray, List.set_cons_succ, List.set_cons_zero]
        repeat (first | (refine lexL_q0 rfl ?_; go_big_quiet_step (fail); refine wpQuiet_nil ?_) | (refine lexL_skip0 rfl rfl ?_; simp only [Act.put, List.setIfInBounds_toArray, List.set_cons_succ, List.set_cons_zero]))
        have ha8 : ∀ o, Below w7.heap.size w7 (w7.alloc o) := fun o => (Below.refl _ _).alloc (Nat.le_refl _) o
        have b8 := Below.ext b7 (ha8 (.cells #[.slice A7 (x.n1 + keepN f.p 0) c7, .slice none 0 0] 48))
        have hone : Recs encF (fun _ => True) (w7.alloc (.cells #[.slice A7 (x.n1 + keepN f.p 0) c7, .slice none 0 0] 48)) (.slice (some ⟨w7.heap.size, 0, none⟩) 1 1) [⟨A7, x.n1 + keepN f.p 0, c7, none, 0, 0⟩] := ⟨_, 1, rfl, by simp, by simp [maxLen], Cs.lit _ _ _ _ _ trivial rfl⟩
        refine lexL_e rfl ?_
        go_wp2_with fail
        refine lexL_go (HS5.out w7 b7) ?_
        repeat (first | (refine lexL_q0 rfl ?_; go_big_quiet_step (fail); refine wpQuiet_nil ?_) | (refine lexL_skip0 rfl rfl ?_; simp only [Act.put, List.setIfInBounds_toArray, List.set_cons_succ, List.set_cons_zero]))
        refine lexL_e rfl ?_
        go_wp2_with fail
        refine lexL_go (HS5.out _ b8) ?_
        repeat (first | (refine lexL_q0 rfl ?_; go_big_quiet_step (fail); refine wpQuiet_nil ?_) | (refine lexL_skip0 rfl rfl ?_; simp only [Act.put, List.setIfInBounds_toArray, List.set_cons_succ, List.set_cons_zero]))
        have b8r := Below.ext hbW3 b8
        have hlk := hF.len
        obtain ⟨xs, hxo, hxl, hxe⟩ := hF
        have hlx : xs.length = j := by omega
        have Hlx := Lib.hid hlx
        have hxo8 := hxo.ext b8r
        have hrow : ∀ b, (Value.slice A' j c').ownBlock = some b → w.heap.size + 3 ≤ b ∧ b < wr.heap.size := fun b e => World.ownsRow.lt hxo _ e
        clear hlx
        refine lexL_e rfl ?_
        refine wpList_appR encF_len encF_one zeroF 48 _ _ 22 48 (w.heap.size + 3) xs [⟨A7, x.n1 + keepN f.p 0, c7, none, 0, 0⟩] (some ⟨w7.heap.size, 0, none⟩) 1 1 (.slice A' j c') (j + 1) rfl rfl Try.underlying22 infoF rfl (by omega) rfl rfl hxo8 hone (by rw [Hlx.out]) (by have := Hlx.out; omega) (by have := Hlx.out; omega) (by have := b8r.size; omega) ?_
        intro A9 c9 w9 hown9 hgr9 hat9 hc91 hc92
        have s8 := b8.size
        have hS9 : w9.heap[w.heap.size + 2]? = some (.cells #[.slice A' j c'] 24 (0, 0)) ∧ w9.heap[wr.heap.size]? = some (.cells #[.int .i64 0, .slice none 0 0] 39 (0, 0)) ∧ w9.heap[wr.heap.size + 1]? = some (.cells #[.slice x.A1 x.n1 x.c1, .slice x.A2 x.n2 x.c2] 48 (0, 0)) := by
          have h8 := HS5.out _ b8
          have hs3 := HsW3.out
          exact ⟨(hgr9.block _ (by omega) (fun e => by have := hrow _ e.symm; omega)).trans h8.1, (hgr9.block _ (by omega) (fun e => by have := hrow _ e.symm; omega)).trans h8.2.1, (hgr9.block _ (by omega) (fun e => by have := hrow _ e.symm; omega)).trans h8.2.2⟩
        have hro9 := hS9.1
        refine lexL_go hS9 ?_
        clear hS9
        simp only [Act.put, List.setIfInBounds_toArray, List.set_cons_succ, List.set_cons_zero]
        refine lexL_nil ?_
        have q9 : w9.frozen? ⟨w.heap.size + 2, 0, none⟩ = false := frozen_of_row _ _ _ _ _ hro9
        have q9' : w9.cell? ⟨w.heap.size + 2, 0, none⟩ = some (.slice A' j c') := by rw [cell_of_row _ _ _ _ _ _ hro9]; rfl
        have HRO9 := Lib.hid hro9
        clear hro9
        have hgS : w9.grownBy (w9.setCell ⟨w.heap.size + 2, 0, none⟩ (.slice A9 (j + 1) c9)) (some (w.heap.size + 2)) := grown_set (grown_refl' _ _)
        have hro10 : (w9.setCell ⟨w.heap.size + 2, 0, none⟩ (.slice A9 (j + 1) c9)).heap[w.heap.size + 2]? = some (.cells #[.slice A9 (j + 1) c9] 24 (0, 0)) := heap_setCell_same _ _ _ _ _ _ HRO9.out
        have hfok : FOk (fun b => w.heap.size + 3 ≤ b ∧ (Value.slice A' j c').ownBlock ≠ some b) (w7.alloc (.cells #[.slice A7 (x.n1 + keepN f.p 0) c7, .slice none 0 0] 48)) ⟨A7, x.n1 + keepN f.p 0, c7, none, 0, 0⟩ (crashF ts j f) := by
          refine ⟨?_, Recs.nil_ _ _⟩
          rw [show (crashF ts j f).s = f.s ++ tornL f.p 0 [] by unfold crashF; rw [HHT1.out, HHT2.out]]
          exact (hown7.recs.ext (ha8 _)).mono (fun b _ h => ⟨by have := h.1; have := HsW3.out; omega, fun e => by have := (hrow b e).2; have := h.1; have := HsW3.out; omega⟩)
        have hfil := (FilOwn.push ⟨hxl, fun i x' f' hx' hf' => (hxe i x' f' hx' hf').ext b8r⟩ ⟨A7, x.n1 + keepN f.p 0, c7, none, 0, 0⟩ (crashF ts j f) hfok hown9 hgr9 hat9).kept hgS (by omega)
        rw [← crash_take fs ts j f HF.out] at hfil
        have hb9 : Below w.heap.size w w9 := hxo8.grow hgr9 (Below.ext hbr b8r) (by omega) (by have := b8r.size; omega)
        have hb10 := Below.grow hb9 hgS (by omega)
        have hgg : W.grownBy (w9.setCell ⟨w.heap.size + 2, 0, none⟩ (.slice A9 (j + 1) c9)) (some (w.heap.size + 2)) := by
          have h1 := grown_trans' hgr (grown_of_below' b8r)
          refine ⟨hgS.os.trans (hgr9.os.trans h1.os), hgS.tape.trans (hgr9.tape.trans h1.tape), hgS.output.trans (hgr9.output.trans h1.output), Nat.le_trans h1.size (Nat.le_trans hgr9.size hgS.size), fun i hi hne => ?_⟩
          have hi8 : i < (w7.alloc (.cells #[.slice A7 (x.n1 + keepN f.p 0) c7, .slice none 0 0] 48)).heap.size := Nat.lt_of_lt_of_le hi h1.size
          exact (hgS.block i (Nat.lt_of_lt_of_le hi8 hgr9.size) hne).trans ((hgr9.block i hi8 (fun e => by have := hrow _ e.symm; have := HsW.out; omega)).trans (h1.block i hi hne))
        have HFIL := Lib.hid hfil
        have HB10 := Lib.hid hb10
        have HGG := Lib.hid hgg
        have HRO10 := Lib.hid hro10
        clear hfil hb10 hgg hro10 hfok hgS hown9 hgr9 hat9 hown7 hgr7 hat7 hown5 hown5' hown6
        go_wp2_with fail
        rw [Only_normal]
        go_wp2
        go_roundw
        case rel => exact ⟨j + 1, A9, c9, by go_num, by omega, HRO10.out, HFIL.out, HB10.out, HGG.out⟩
        case measure => simp [intOf]; omega
    · obtain rfl : j = n := by omega
      have qO : wr.cell? ⟨w.heap.size + 2, 0, none⟩ = some (.slice A' j c') := by rw [cell_of_row _ _ _ _ _ _ HO.out]; rfl
      have Z5 := Lib.hid ((hgr.block (w.heap.size + 1) (by have := HsW.out; omega) (by simp)).trans R1.out)
      go_wp2_with (refine wpList_store_row rfl 24 _ _ rfl (w.heap.size + 1) 24 _ _ rfl rfl Z5.out (by kernel_rfl) rfl (by simp [Value.oneCell']) ?_)
      refine bodyPost_ret (results_c rfl rfl (run_ld_block (setRow_heap _ _ _ _ _ _ Z5.out) Try.underlying24 rfl (by kernel_rfl))) rfl ?_
      rw [List.take_of_length_le (by unfold crashL; simp [HD1.out])] at hF
      refine ⟨A', c', rfl, ((hF.dsk.mono (S' := fun b => w.heap.size + 3 ≤ b) (fun b _ h => h)).keep (fun b hb hs => setRow_other _ _ _ _ (by omega))).mono (fun b _ h => by omega), Below.setRow hbr (by omega) _⟩
end Go.Proofs.Ytmbbngdhdhgliaa
