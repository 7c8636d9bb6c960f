/-
  Journals: what is stable, what they contain; law 30's same and begins.
-/
import Derived.Test.YtjcfnpmgklliiaaRlD
namespace Go.Proofs.Ytjcfnpmgklliiaa
open Go.RowKit
set_option maxRecDepth 100000
set_option linter.unusedVariables false
set_option linter.unusedSimpArgs false

theorem crash_nil (s p : List UInt8) : crashL [⟨s, p⟩] [] = [⟨s, []⟩] := by
  simp [crashL, crashF, tearOf, tornL, maskL, keepN]
  exact .inl (by omega)
theorem Trs.nil_ (S : Nat → Prop) (w : World) : Trs S w (.slice none 0 0) [] := ⟨[], Recs.nil_ _ _, rfl, fun i x t hx => by simp at hx⟩
theorem Jrn.whole {S : Nat → Prop} {w : World} {A B : Option Addr} {c m d K : Nat} {a b u : List Dt} (h : Jrn S w A c B m d a b u K) : WholeR (frL a ++ frL b) (a ++ b) ∧ WholeR (frL a) a ∧ (frL a ++ frL b).length ≤ 30000 := by
  refine ⟨?_, whole_frL a h.ina, ?_⟩
  · rw [← frL_append]
    exact whole_frL _ (fun x hx => by
      rcases List.mem_append.1 hx with q | q
      · exact h.ina x q
      · exact h.inb x q)
  · have := h.siz
    have := h.kle
    rw [List.length_append]
    omega
theorem ag_bytes (w : World) : (isAgg 22).run Try.prog w = .ok false w := by simp [isAgg, run_underlying Try.underlying22]
set_option maxHeartbeats 2000000 in
theorem rlstable_any (A : Option Addr) (c : Nat) (B : Option Addr) (m d : Nat) (a b u : List Dt) (K : Nat) (S : Nat → Prop) (w : World) (hJ : Jrn S w A c B m d a b u K) (na : Nat) (hna : a.length = na) :
    Calls Try.prog 45 #[.agg #[.slice A 1 c, .slice B m d]] w fun e w' => ∃ A' c', e = .returned (.slice A' na c') ∧ Recs encDt (w.heap.size ≤ ·) w' (.slice A' na c') a ∧ Below w.heap.size w w' := by
  obtain ⟨W, hW, hbW, kW, SW, R0⟩ := boxD w w #[.slice A 1 c, .slice B m d] 70 (Below.refl _ _)
  have hwh := hJ.whole
  have hcr := crash_any A 1 c _ _ W (hJ.dsk.ext hbW) (by omega) none 0 0 [] _ (Trs.nil_ (fun _ => True) W) (fun f hf => by have := hJ.flen f hf; unfold flen at this; omega)
  rw [crash_nil] at hcr
  have Hcr := Lib.hid hcr
  clear hcr
  go_enter Try.func45, Try.ntmps45
  go_upto_region 1 with fail
  rw [← hW]
  clear hW
  go_wp2_with (refine wpList_ldv (t := 45) (A := ⟨w.heap.size, 0, none⟩) rfl rfl rfl (ld_jd R0.out) ?_)
  refine Hcr.out.mono ?_
  rintro e w2 ⟨A2, c2, rfl, hD2, hb2⟩
  have hop := walopen_go A2 1 c2 _ _ w2 hD2 (by omega) 0 (fun f hf => by simp only [List.mem_singleton] at hf; subst hf; simp only [flen, List.length_nil]; have := hwh.2.2; rw [List.length_append] at this; omega) a _ 1 0 (.inl ⟨0, _, rfl, rfl, by simpa using hwh.2.1, rfl, rfl, rfl⟩)
  rw [hna] at hop
  have Hop := Lib.hid hop
  clear hop
  go_wp2_with fail
  refine Hop.out.mono ?_
  rintro e w3 ⟨A3, c3, B3, e3, rfl, hL3, _, hb3⟩
  have HNA := Lib.hid hna
  have hsz := hbW.size
  have hs2 := hb2.size
  have hL4 := (hL3.mono (S' := fun b => w.heap.size ≤ b) (fun b _ h => by omega)).ext ((Below.refl _ w3).alloc (Nat.le_refl _) (.cells #[.slice B3 1 e3] 45))
  have b4 : Below w.heap.size w (w3.alloc (.cells #[.slice B3 1 e3] 45)) := (Below.ext hbW (Below.ext hb2 hb3)).alloc (by have := hb3.size; omega) _
  clear hna hsz hs2
  go_wp2_with (refine wpList_store_new rfl 45 _ _ rfl 45 _ #[.slice B3 1 e3] rfl rfl (by kernel_rfl) rfl (by simp [Value.oneCell']) ?_)
  go_ret
  exact ⟨A3, c3, rfl, hL4, b4⟩

set_option maxHeartbeats 2000000 in
theorem rlcontents_any (A : Option Addr) (c : Nat) (B : Option Addr) (m d : Nat) (a b u : List Dt) (K : Nat) (S : Nat → Prop) (w : World) (hJ : Jrn S w A c B m d a b u K) (na : Nat) (hna : (a ++ b).length = na) :
    Calls Try.prog 39 #[.agg #[.slice A 1 c, .slice B m d]] w fun e w' => ∃ A' c', e = .returned (.slice A' (na + m) c') ∧ Recs encDt (w.heap.size ≤ ·) w' (.slice A' (na + m) c') (a ++ b ++ u) ∧ Below w.heap.size w w' := by
  obtain ⟨W, hW, hbW, kW, SW, R0⟩ := boxD w w #[.slice A 1 c, .slice B m d] 70 (Below.refl _ _)
  have hwh := hJ.whole
  have hop := walopen_go A 1 c _ _ W (hJ.dsk.ext hbW) (by omega) 0 hJ.flen (a ++ b) _ 1 0 (.inl ⟨0, _, rfl, rfl, hwh.1, rfl, rfl, rfl⟩)
  rw [hna] at hop
  have Hop := Lib.hid hop
  have hge := frL_ge (a ++ b)
  rw [frL_append, hna] at hge
  have hlen := hJ.len
  have hz := hJ.siz
  have hk := hJ.kle
  have hwl := hwh.2.2
  have hbuf := hJ.buf.ext hbW
  clear hop hna hwh
  have hl1 := Lib.hid hlen.1
  obtain ⟨_, hl2, hl3⟩ := hlen
  go_enter Try.func39, Try.ntmps39
  go_upto_region 1 with fail
  rw [← hW]
  clear hW
  go_wp2_with (refine wpList_ldv (t := 45) (A := ⟨w.heap.size, 0, none⟩) rfl rfl rfl (ld_jd R0.out) ?_)
  refine Hop.out.mono ?_
  rintro e w3 ⟨A3, c3, B3, e3, rfl, hL3, _, hb3⟩
  have sW := SW.out
  have s3 := hb3.size
  obtain ⟨W4, hW4, b4, k4, S4, r4⟩ := boxD w w3 #[.slice B3 1 e3] 45 (Below.ext hbW hb3)
  have R4 := Lib.hid ((k4.block w.heap.size (by omega)).trans ((hb3.block w.heap.size (by omega)).trans R0.out))
  have q1 : W4.cell? ⟨w.heap.size, 1, none⟩ = some (.slice B m d) := row_cell R4.out 1 _ rfl
  obtain ⟨W5, hW5, z5, s5, r5⟩ := newD W4 #[.slice A3 na c3, .slice B m d] 27
  have p0 : W5.cell? ⟨W4.heap.size, 0, none⟩ = some (.slice A3 na c3) := row_cell r5 0 _ rfl
  have p1 : W5.cell? ⟨W4.heap.size, 1, none⟩ = some (.slice B m d) := row_cell r5 1 _ rfl
  have hcc := concatD W4.heap.size A3 B na c3 m d (a ++ b) u _ _ W5 p0 p1 ((hL3.ext k4).ext z5) ((hbuf.ext (Below.ext hb3 k4)).ext z5) (by omega)
  have Hcc := Lib.hid hcc
  have S5 := Lib.hid s5
  clear hcc p0 p1 r5 s5 sW
  go_upto_region 2 with (refine wpList_store_new rfl 45 _ _ rfl 45 _ #[.slice B3 1 e3] rfl rfl (by kernel_rfl) rfl (by simp [Value.oneCell']) ?_)
  rw [← hW4]
  clear hW4
  go_wp2_with fail
  rw [← hW5]
  clear hW5
  refine Hcc.out.mono ?_
  rintro e w6 ⟨A6, c6, rfl, hO6, hb6⟩
  go_wp2
  go_ret
  have sW := SW.out
  have s4 := S4.out
  have := S5.out
  exact ⟨A6, c6, rfl, hO6.recs.mono (fun b _ h => by omega), Below.ext b4 (Below.ext z5 hb6)⟩

set_option maxHeartbeats 2000000 in
theorem refstable_any (A : Option Addr) (c : Nat) (B : Option Addr) (m d : Nat) (a b u : List Dt) (K : Nat) (S : Nat → Prop) (w : World) (hJ : Jrn S w A c B m d a b u K) (na : Nat) (hna : a.length = na) :
    Calls Try.prog 46 #[.agg #[.slice A 1 c, .slice B m d]] w fun e w' => ∃ A' c', e = .returned (.slice A' na c') ∧ Recs encDt (w.heap.size ≤ ·) w' (.slice A' na c') a ∧ Below w.heap.size w w' := by
  have hwh := hJ.whole
  obtain ⟨bb, off, x, f, rfl, hbl, hf, hx, c0, c1⟩ := hJ.dsk.at_ (k := 0) (by omega)
  simp only [List.getElem?_cons_zero, Option.some.injEq] at hf
  subst hf
  obtain ⟨W, hW, hbW, kW, SW, R0⟩ := boxD w w #[.slice (some ⟨bb, off, none⟩) 1 c, .slice B m d] 70 (Below.refl _ _)
  have hxl := Lib.hid hx.s.len.1
  have hwo := refwhole_any _ (frL a) _ W (Recs.bytes (hx.s.ext hbW)) (by have := hwh.2.2; rw [List.length_append] at this; omega) a hwh.2.1
  rw [hna] at hwo
  have Hwo := Lib.hid hwo
  have q0 : W.cell? ⟨w.heap.size, 0, none⟩ = some (.slice (some ⟨bb, off, none⟩) 1 c) := row_cell R0.out 0 _ rfl
  have p0 : W.cell? ⟨bb, off, none⟩ = some (.slice x.A1 x.n1 x.c1) := (hbW.cell (p := ⟨bb, off, none⟩) hbl).trans (by simpa using c0)
  have hcl := hJ.dsk.len.2
  clear hwo hna c0 c1 hwh
  go_enter Try.func46, Try.ntmps46
  go_upto_region 1 with fail
  rw [← hW]
  clear hW
  go_wp2_with fail
  refine Hwo.out.mono ?_
  rintro e w2 ⟨A2, c2, rfl, hO2, hb2⟩
  go_wp2
  go_ret
  exact ⟨A2, c2, rfl, hO2.recs.mono (fun b _ h => by have := hbW.size; omega), Below.ext hbW hb2⟩

set_option maxHeartbeats 4000000 in
theorem refcontents_any (A : Option Addr) (c : Nat) (B : Option Addr) (m d : Nat) (a b u : List Dt) (K : Nat) (S : Nat → Prop) (w : World) (hJ : Jrn S w A c B m d a b u K) (na : Nat) (hna : (a ++ b).length = na) :
    Calls Try.prog 47 #[.agg #[.slice A 1 c, .slice B m d]] w fun e w' => ∃ A' c', e = .returned (.slice A' (na + m) c') ∧ Recs encDt (w.heap.size ≤ ·) w' (.slice A' (na + m) c') (a ++ b ++ u) ∧ Below w.heap.size w w' := by
  have hwh := hJ.whole
  have hlen := hJ.len
  have hz := hJ.siz
  have hk := hJ.kle
  have hl1 := Lib.hid hlen.1
  obtain ⟨_, hl2, hl3⟩ := hlen
  have hge := frL_ge (a ++ b)
  rw [frL_append, hna] at hge
  obtain ⟨bb, off, x, f, rfl, hbl, hf, hx, c0, c1⟩ := hJ.dsk.at_ (k := 0) (by omega)
  simp only [List.getElem?_cons_zero, Option.some.injEq] at hf
  subst hf
  obtain ⟨W, hW, hbW, kW, SW, R0⟩ := boxD w w #[.slice (some ⟨bb, off, none⟩) 1 c, .slice B m d] 70 (Below.refl _ _)
  have hx1 : (frL a).length = x.n1 := hx.s.len.1
  have hx2 : (frL b).length = x.n2 := hx.p.len.1
  have hwl := hwh.2.2
  rw [List.length_append] at hwl
  have q0 : W.cell? ⟨w.heap.size, 0, none⟩ = some (.slice (some ⟨bb, off, none⟩) 1 c) := row_cell R0.out 0 _ rfl
  have p0 : W.cell? ⟨bb, off, none⟩ = some (.slice x.A1 x.n1 x.c1) := (hbW.cell (p := ⟨bb, off, none⟩) hbl).trans (by simpa using c0)
  have p1 : W.cell? ⟨bb, off + 1, none⟩ = some (.slice x.A2 x.n2 x.c2) := (hbW.cell (p := ⟨bb, off + 1, none⟩) hbl).trans (by simpa using c1)
  have hcl := hJ.dsk.len.2
  have HX1 := Lib.hid hx1
  have HX2 := Lib.hid hx2
  have hxn : x.n1 + x.n2 ≤ 30000 := by omega
  obtain ⟨W2, hW2, b2, k2, S2, r2⟩ := boxD w W #[.slice x.A1 x.n1 x.c1, .slice x.A2 x.n2 x.c2] 42 hbW
  have sW := SW.out
  have s2 := S2.out
  have R2 := Lib.hid ((k2.block w.heap.size (by omega)).trans R0.out)
  have hs2 := Recs.bytes (hx.s.ext (Below.ext hbW k2))
  have hp2 := Recs.bytes (hx.p.ext (Below.ext hbW k2))
  have hu2 := hJ.buf.ext (Below.ext hbW k2)
  have HNA := Lib.hid hna
  have hws : W.heap.size = w.heap.size + 1 := sW
  obtain ⟨bf, hbf⟩ : ∃ bf, bf = W.heap.size := ⟨_, rfl⟩
  have hbf1 : w.heap.size < bf := by omega
  have hbf2 : bf < W2.heap.size := by omega
  rw [← hbf] at r2
  clear c0 c1 hna hx1 hx2 sW s2 hws
  go_enter Try.func47, Try.ntmps47
  go_upto_region 1 with fail
  rw [← hW]
  clear hW
  go_upto_region 4 with (refine wpList_store_new rfl 42 _ _ rfl 42 _ #[.slice x.A1 x.n1 x.c1, .slice x.A2 x.n2 x.c2] rfl rfl (by kernel_rfl) rfl (by simp [Value.oneCell']) ?_)
  rw [← hW2, ← hbf]
  clear hW2 hbf q0 p0 p1
  go_wp2_with fail
  refine wp_region_lexL ((fun w' => w'.heap[w.heap.size]? = some (.cells #[.slice (some ⟨bb, off, none⟩) 1 c, .slice B m d] 70 (0, 0)) ∧ w'.heap[bf]? = some (.cells #[.slice x.A1 x.n1 x.c1, .slice x.A2 x.n2 x.c2] 42 (0, 0)))) (by kernel_rfl) (by kernel_rfl) (⟨R2.out, r2.out⟩) ?_
  repeat (first | (refine lexL_q0 rfl ?_; go_big_quiet_step (fail); refine wpQuiet_nil ?_) | (refine lexL_skip0 rfl rfl ?_; simp only [Act.put, List.setIfInBounds_toArray, List.set_cons_succ, List.set_cons_zero]))
  refine lexL_ld (⟨bf, 0, none⟩) (.slice x.A1 x.n1 x.c1) rfl rfl rfl (fun w' hw' => run_ld1 (ag_bytes _) (row_cell hw'.2 0 _ rfl)) ?_
  simp only [Act.put, List.setIfInBounds_toArray, List.set_cons_succ, List.set_cons_zero]
  repeat (first | (refine lexL_q0 rfl ?_; go_big_quiet_step (fail); refine wpQuiet_nil ?_) | (refine lexL_skip0 rfl rfl ?_; simp only [Act.put, List.setIfInBounds_toArray, List.set_cons_succ, List.set_cons_zero]))
  refine lexL_e rfl ?_
  go_wp2_with (refine wpList_appB (o := ⟨some 16, _, _, _, _, _⟩) _ _ 22 5 W2.heap.size [] (frL a) x.A1 x.n1 x.c1 (.slice none 0 0) x.n1 rfl rfl Try.underlying22 (by kernel_rfl) rfl rfl (OwnB.nil_ _ _ _) hs2 (by simp) (by simp; omega) (Nat.le_refl _) ?_; intro A5 c5 w5 hO5 hgr5 hat5 hc51 hc52)
  have z5 : Below W2.heap.size W2 w5 := (Below.refl _ W2).drew.trans (grown_nil hgr5)
  have R5 := Lib.hid ((z5.block w.heap.size (by omega)).trans R2.out)
  have r5 := Lib.hid ((z5.block bf hbf2).trans r2.out)
  go_wp2_with fail
  refine lexL_go (⟨R5.out, r5.out⟩) ?_
  repeat (first | (refine lexL_q0 rfl ?_; go_big_quiet_step (fail); refine wpQuiet_nil ?_) | (refine lexL_skip0 rfl rfl ?_; simp only [Act.put, List.setIfInBounds_toArray, List.set_cons_succ, List.set_cons_zero]))
  refine lexL_ld (⟨bf, 1, none⟩) (.slice x.A2 x.n2 x.c2) rfl rfl rfl (fun w' hw' => run_ld1 (ag_bytes _) (row_cell hw'.2 1 _ rfl)) ?_
  simp only [Act.put, List.setIfInBounds_toArray, List.set_cons_succ, List.set_cons_zero]
  repeat (first | (refine lexL_q0 rfl ?_; go_big_quiet_step (fail); refine wpQuiet_nil ?_) | (refine lexL_skip0 rfl rfl ?_; simp only [Act.put, List.setIfInBounds_toArray, List.set_cons_succ, List.set_cons_zero]))
  refine lexL_e rfl ?_
  have hs5 := z5.size
  go_wp2_with (refine wpList_appB (o := ⟨some 19, _, _, _, _, _⟩) _ _ 22 5 W2.heap.size (frL a) (frL b) x.A2 x.n2 x.c2 (.slice A5 x.n1 c5) (x.n1 + x.n2) rfl rfl Try.underlying22 (by kernel_rfl) rfl rfl hO5 (hp2.ext z5) (by rw [HX1.out]) (by rw [HX1.out]; omega) (by omega) ?_; intro A6 c6 w6 hO6 hgr6 hat6 hc61 hc62)
  have z6 : Below W2.heap.size W2 w6 := OwnB.grow hO5 hgr6 z5 (Nat.le_refl _) hs5
  have R6 := Lib.hid ((z6.block w.heap.size (by omega)).trans R2.out)
  have r6 := Lib.hid ((z6.block bf hbf2).trans r2.out)
  go_wp2_with fail
  refine lexL_go (⟨R6.out, r6.out⟩) ?_
  repeat (first | (refine lexL_q0 rfl ?_; go_big_quiet_step (fail); refine wpQuiet_nil ?_) | (refine lexL_skip0 rfl rfl ?_; simp only [Act.put, List.setIfInBounds_toArray, List.set_cons_succ, List.set_cons_zero]))
  have hwo := refwhole_any _ (frL a ++ frL b) _ w6 hO6.bytes (by have := hwh.2.2; omega) (a ++ b) hwh.1
  rw [HNA.out] at hwo
  have Hwo := Lib.hid hwo
  clear hwo
  refine lexL_e rfl ?_
  go_wp2_with fail
  refine Hwo.out.mono ?_
  rintro e w7 ⟨A7, c7, rfl, hO7, hb7⟩
  have z7 := Below.ext z6 hb7
  have R7 := Lib.hid ((z7.block w.heap.size (by omega)).trans R2.out)
  have r7 := Lib.hid ((z7.block bf hbf2).trans r2.out)
  go_wp2_with fail
  refine lexL_go (⟨R7.out, r7.out⟩) ?_
  repeat (first | (refine lexL_q0 rfl ?_; go_big_quiet_step (fail); refine wpQuiet_nil ?_) | (refine lexL_skip0 rfl rfl ?_; simp only [Act.put, List.setIfInBounds_toArray, List.set_cons_succ, List.set_cons_zero]))
  refine lexL_ld (⟨w.heap.size, 1, none⟩) (.slice B m d) rfl rfl rfl (fun w' hw' => ld_jb hw'.1) ?_
  simp only [Act.put, List.setIfInBounds_toArray, List.set_cons_succ, List.set_cons_zero]
  repeat (first | (refine lexL_q0 rfl ?_; go_big_quiet_step (fail); refine wpQuiet_nil ?_) | (refine lexL_skip0 rfl rfl ?_; simp only [Act.put, List.setIfInBounds_toArray, List.set_cons_succ, List.set_cons_zero]))
  refine lexL_e rfl ?_
  have hs7 := hb7.size
  have hl7 := Lib.hid hO7.len.1
  go_wp2_with (refine wpList_appR (o := ⟨some 23, _, _, _, _, _⟩) encDt_len encDt_one (.agg #[.int .i64 0, .int .i64 0, .int .i64 0, .int .i64 0, .int .i64 0, .int .i64 0, .int .i64 0, .int .i64 0, .int .i64 0]) 72 _ _ 27 38 w6.heap.size (a ++ b) u B m d (.slice A7 na c7) (na + m) rfl rfl Try.underlying27 infoDt rfl (by omega) rfl rfl hO7 (hu2.ext z7) (by rw [hl7.out]) (by rw [hl7.out]; omega) (by rw [hl7.out]; omega) hs7 ?_; intro A8 c8 w8 hO8 hgr8 hat8 hc81 hc82)
  have hs6 := z6.size
  have z8 : Below W2.heap.size W2 w8 := (Below.ext z6 (OwnR.grow hO7 hgr8 hb7 (Nat.le_refl _) hs7))
  have R8 := Lib.hid ((z8.block w.heap.size (by omega)).trans R2.out)
  have r8 := Lib.hid ((z8.block bf hbf2).trans r2.out)
  go_wp2_with fail
  refine lexL_go (⟨R8.out, r8.out⟩) ?_
  repeat (first | (refine lexL_q0 rfl ?_; go_big_quiet_step (fail); refine wpQuiet_nil ?_) | (refine lexL_skip0 rfl rfl ?_; simp only [Act.put, List.setIfInBounds_toArray, List.set_cons_succ, List.set_cons_zero]))
  refine lexL_nil ?_
  go_wp2_with fail
  go_ret
  exact ⟨A8, c8, rfl, hO8.recs.mono (fun b _ h => by omega), Below.ext b2 z8⟩

set_option maxHeartbeats 2000000 in
theorem same30_eq (A1 : Option Addr) (c1 : Nat) (B1 : Option Addr) (d1 : Nat) (A2 : Option Addr) (c2 : Nat) (B2 : Option Addr) (d2 m : Nat) (a b u : List Dt) (K1 K2 : Nat) (S1 S2 : Nat → Prop) (w : World) (h1 : Jrn S1 w A1 c1 B1 m d1 a b u K1) (h2 : Jrn S2 w A2 c2 B2 m d2 a b u K2) :
    Calls Try.prog 42 #[.agg #[.slice A1 1 c1, .slice B1 m d1], .agg #[.slice A2 1 c2, .slice B2 m d2]] w fun e w' => e = .returned (.bool true) ∧ Below w.heap.size w w' := by
  obtain ⟨W, hW, hbW, SW, R0, R1⟩ : ∃ W, W = (w.alloc (.cells #[.slice A1 1 c1, .slice B1 m d1] 70)).alloc (.cells #[.slice A2 1 c2, .slice B2 m d2] 70) ∧ Below w.heap.size w W ∧ RowKit.Hid (W.heap.size = w.heap.size + 2) ∧
    RowKit.Hid (W.heap[w.heap.size]? = some (.cells #[.slice A1 1 c1, .slice B1 m d1] 70 (0, 0))) ∧ RowKit.Hid (W.heap[w.heap.size + 1]? = some (.cells #[.slice A2 1 c2, .slice B2 m d2] 70 (0, 0))) := by
    refine ⟨_, rfl, ((Below.refl _ w).alloc (Nat.le_refl _) _).alloc (by simp) _, Lib.hid (by simp), Lib.hid ?_, Lib.hid ?_⟩
    · exact (((Below.refl _ _).alloc (Nat.le_refl _) _).block w.heap.size (by simp)).trans (heap_alloc_new w _)
    · have := heap_alloc_new (w.alloc (.cells #[.slice A1 1 c1, .slice B1 m d1] 70)) (.cells #[.slice A2 1 c2, .slice B2 m d2] 70)
      rw [World.size_alloc] at this
      exact this
  go_enter Try.func42, Try.ntmps42
  go_upto_region 1 with fail
  rw [← hW]
  clear hW
  go_wp2_with (first | (refine wpList_ldv (t := 45) (A := ⟨w.heap.size, 0, none⟩) rfl rfl rfl (ld_jd R0.out) ?_) | (refine wpList_ldv (t := 45) (A := ⟨w.heap.size + 1, 0, none⟩) rfl rfl rfl (ld_jd R1.out) ?_))
  refine (samedisk_eq _ _ 1 _ _ [⟨frL a, frL b⟩] _ _ W (h1.dsk.ext hbW) (h2.dsk.ext hbW) (by omega)).mono ?_
  rintro e w3 ⟨rfl, hb3⟩
  have sW := SW.out
  have z0 := (hb3.block w.heap.size (by omega)).trans R0.out
  have z1 := (hb3.block (w.heap.size + 1) (by omega)).trans R1.out
  have q0 : w3.cell? ⟨w.heap.size, 1, none⟩ = some (.slice B1 m d1) := row_cell z0 1 _ rfl
  have q1 : w3.cell? ⟨w.heap.size + 1, 1, none⟩ = some (.slice B2 m d2) := row_cell z1 1 _ rfl
  have b3 := Below.ext hbW hb3
  clear z0 z1 sW
  go_wp2_with fail
  refine (same27_eq B1 B2 m d1 d2 u _ _ w3 (h1.buf.ext b3) (h2.buf.ext b3)).mono ?_
  rintro e w4 ⟨rfl, hb4⟩
  go_wp2
  go_ret
  exact ⟨rfl, Below.ext b3 hb4⟩

set_option maxHeartbeats 2000000 in
theorem begins30_eq (A1 : Option Addr) (n1 c1 : Nat) (A2 : Option Addr) (n2 c2 : Nat) (l h : List Dt) (S1 S2 : Nat → Prop) (w : World) (hl : Recs encDt S1 w (.slice A1 n1 c1) l) (hh : Recs encDt S2 w (.slice A2 n2 c2) h) (hp : h <+: l) :
    Calls Try.prog 48 #[.slice A1 n1 c1, .slice A2 n2 c2] w fun e w' => e = .returned (.bool true) ∧ Below w.heap.size w w' := by
  have l1 := hl.len
  have l2 := hh.len
  have hle : n2 ≤ n1 := by have := hp.length_le; omega
  have d1 : decide (n2 ≤ n1) = true := by simpa using hle
  have ht : l.take n2 = h := by
    obtain ⟨r, rfl⟩ := hp
    rw [← l2.1, List.take_left]
  have hl2 := hl.take_ encDt_len hle
  rw [ht] at hl2
  have L1 := Lib.hid l1.1
  have L2 := Lib.hid l2.1
  obtain ⟨_, l12, l13⟩ := l1
  obtain ⟨_, l22, l23⟩ := l2
  clear ht
  go_enter Try.func48, Try.ntmps48
  go_wp2_with fail
  refine (same27_eq A1 A2 n2 c1 c2 h _ _ w hl2 hh).mono ?_
  rintro e w4 ⟨rfl, hb4⟩
  go_wp2
  go_ret
  exact ⟨rfl, hb4⟩
end Go.Proofs.Ytjcfnpmgklliiaa
