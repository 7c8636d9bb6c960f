/-
  Journals: Append of the program and the document.
-/
import Derived.Test.YtjcfnpmgklliiaaConcatD
import Derived.ArgAppend
import Derived.Great.BuildSlice
namespace Go.Proofs.Ytjcfnpmgklliiaa
open Go.RowKit
set_option maxRecDepth 100000
set_option linter.unusedVariables false
set_option linter.unusedSimpArgs false

theorem clipD_any (A : Option Addr) (n c : Nat) (w : World) (hn : n ≤ c) (hc : c ≤ 9223372036854775807) : Calls Try.prog 99 #[.slice A n c] w fun e w' => e = .returned (.slice A n n) ∧ w' = w := by
  go_enter Try.func99, Try.ntmps99
  go_wp2
  go_ret
  exact ⟨rfl, rfl⟩
/-- append to a slice of records that is full -/
theorem wpList_appG {α : Type} {enc : α → List Value} {k : Nat} {P : Program} {w : World} {D0 D : Nat → Prop} {ops : Array Oper} {rest : List Oper} {o : Oper} {a : Act} {Q : Exit → Act → World → Prop} (hk : ∀ x, (enc x).length = k) (h1 : ∀ x, ∀ u ∈ enc x, u.oneCell' = true) (z : Value) (bytes : Nat) (s x : Operand) (t e : TypeId) (l r : List α) (A : Option Addr) (n : Nat) (B : Option Addr) (m c N : Nat)
    (hgd : o.guard = none) (ho : o.op = .call { callee := .builtin .append, args := #[s, x], argTypes := #[t, t] }) (ht : P.underlying t = some (.slice e)) (hinfo : (P.info? e).map (fun i => (i.zero, i.size, i.bytes)) = some (some z, k, bytes)) (hzs : z.cells.size = k) (hk0 : 0 < k)
    (hs : a.eval s = .slice A n n) (hx : a.eval x = .slice B m c) (hl : Recs enc D0 w (.slice A n n) l) (hr : Recs enc D w (.slice B m c) r) (hm : 0 < m) (hN : N = n + m) (hbytes : (n + m) * bytes ≤ 140737488355328) (h63 : n + m ≤ 9223372036854775807)
    (K : ∀ A' c' w', OwnR enc k w' w.heap.size e (.slice A' N c') (l ++ r) → Below w.heap.size w w' → N ≤ c' → c' ≤ 9223372036854775807 → wpList P ops Q rest (a.put o.dst (.slice A' N c')) w') :
    wpList P ops Q (o :: rest) a w := by
  obtain ⟨i, hi, hz, hsz, hby⟩ := info_parts hinfo
  obtain ⟨A2, c2, e2, g1, g2, g3⟩ := hr
  cases e2
  obtain ⟨A3, c3, e3, g4, g5, g6⟩ := hl
  cases e3
  subst hN
  obtain ⟨bb, off, rfl, _, hc⟩ := g3 (by rw [flat_length hk]; exact Nat.mul_pos hm hk0)
  refine wpList_append_grows w hgd s x t ho e i z k bytes ht hi hz hsz hby hzs hk0 A l.length l.length (l.flatMap enc) hs (fun e => ?_) (flat_length hk l) (fun b e j u hu => ?_) ⟨bb, off, none⟩ r.length c (r.flatMap enc) hx (flat_length hk r) (fun j u hu => by rw [Addr.add_lit]; exact hc j u hu) (fun u hu => ?_) (by omega) (by unfold maxLen; omega) hbytes ?_
  · cases hl : l with
    | nil => exact ⟨rfl, rfl⟩
    | cons y ys =>
      subst e hl
      obtain ⟨_, _, h, _⟩ := g6 (by rw [flat_length hk]; exact Nat.mul_pos (by simp) hk0)
      cases h
  · subst e
    obtain ⟨b2, off2, e, _, hc2⟩ := g6 (by have := (List.getElem?_eq_some_iff.1 hu).1; omega)
    cases e
    rw [Addr.add_lit]
    exact hc2 j u hu
  · obtain ⟨y, _, hy⟩ := List.mem_flatMap.1 hu
    exact h1 y u hy
  · intro v' w' h1 h2
    obtain ⟨A', c', rfl, k1, k2⟩ := ownsRow_slice h1
    have hown : OwnR enc k w' w.heap.size e (.slice A' (l.length + r.length) c') (l ++ r) := by
      unfold OwnR
      rw [List.length_append, List.flatMap_append]
      exact h1
    exact K A' c' w' hown ((Below.refl _ w).grown h2 (Nat.le_refl _) (fun k e => by cases e)) k1 k2
theorem runs_bs {P : Program} {o : Oper} {ρ : Operand → Value} {w : World} {T : TypeId} {len : Nat} {parts : Array (Nat × Operand)} {ps : Array (Nat × Value)} {v : Value} {w' : World} (ho : o.op = .buildSlice T len parts) (hp : (parts.map fun (i, x) => (i, ρ x)) = ps) (h : (Instr.buildSlice T len ps).run P w = .ok v w') : (execOp ρ o).run P w = .ok (.value v) w' := by
  unfold execOp
  simp only [ho, hp, Sem.run_bind, h, Result.andThen_ok]
  rfl
theorem bs_det (x : Dt) (w : World) : (Instr.buildSlice 27 1 #[(0, .agg #[Value.int .i64 x.proc, Value.int .i64 x.index, Value.int .i64 x.ev.k0, Value.int .i64 x.ev.k1, Value.int .i64 x.ev.k2, Value.int .i64 x.ev.k3, Value.int .i64 x.ev.k4, Value.int .i64 x.ev.k5, Value.int .i64 x.ev.k6])]).run Try.prog w = .ok (.slice (some ⟨w.heap.size, 0, none⟩) 1 1) (w.alloc (.cells #[Value.int .i64 x.proc, Value.int .i64 x.index, Value.int .i64 x.ev.k0, Value.int .i64 x.ev.k1, Value.int .i64 x.ev.k2, Value.int .i64 x.ev.k3, Value.int .i64 x.ev.k4, Value.int .i64 x.ev.k5, Value.int .i64 x.ev.k6] 38)) := by
  obtain ⟨i, hi, hz, hsz, hby⟩ := info_parts infoDt
  exact run_buildSlice w _ _ 1 _ _ i _ Try.underlying27 hi hz (by rw [hsz]; omega) (by rw [hsz]; omega) (by rw [hsz]; kernel_rfl)
theorem det_one (x : Dt) (w : World) (X : Nat) (h : w.heap[X]? = some (.cells #[Value.int .i64 x.proc, Value.int .i64 x.index, Value.int .i64 x.ev.k0, Value.int .i64 x.ev.k1, Value.int .i64 x.ev.k2, Value.int .i64 x.ev.k3, Value.int .i64 x.ev.k4, Value.int .i64 x.ev.k5, Value.int .i64 x.ev.k6] 38 (0, 0))) : Recs encDt (· = X) w (.slice (some ⟨X, 0, none⟩) 1 1) [x] :=
  ⟨_, 1, rfl, by simp, by simp [maxLen], fun _ => ⟨X, 0, rfl, rfl, fun j u hu => by
    rw [cell_of_row _ _ _ _ _ _ h, Nat.zero_add]
    have e : [x].flatMap encDt = [Value.int .i64 x.proc, Value.int .i64 x.index, Value.int .i64 x.ev.k0, Value.int .i64 x.ev.k1, Value.int .i64 x.ev.k2, Value.int .i64 x.ev.k3, Value.int .i64 x.ev.k4, Value.int .i64 x.ev.k5, Value.int .i64 x.ev.k6] := rfl
    rw [e] at hu
    simpa using hu⟩⟩
theorem jboxesD (w : World) (x y : Value) (cs : Array Value) : ∃ W, W = ((w.alloc (.cells #[x, y] 70)).alloc (.cells cs 38)).alloc (.cells #[.slice none 0 0, .slice none 0 0] 70) ∧ Below w.heap.size w W ∧ RowKit.Hid (W.heap.size = w.heap.size + 3) ∧
    RowKit.Hid (W.heap[w.heap.size]? = some (.cells #[x, y] 70 (0, 0))) ∧ RowKit.Hid (W.heap[w.heap.size + 1]? = some (.cells cs 38 (0, 0))) ∧ RowKit.Hid (W.heap[w.heap.size + 2]? = some (.cells #[.slice none 0 0, .slice none 0 0] 70 (0, 0))) := by
  have h2 : ((w.alloc (.cells #[x, y] 70)).alloc (.cells cs 38)).heap.size = w.heap.size + 2 := by simp
  refine ⟨_, rfl, (((Below.refl _ w).alloc (Nat.le_refl _) _).alloc (by simp) _).alloc (by simp; omega) _, Lib.hid (by simp), Lib.hid ?_, Lib.hid ?_, Lib.hid ?_⟩
  · exact (((Below.refl _ _).alloc (Nat.le_refl _) _).block w.heap.size (by simp; omega)).trans ((((Below.refl _ _).alloc (Nat.le_refl _) _).block w.heap.size (by simp)).trans (heap_alloc_new w _))
  · have := heap_alloc_new (w.alloc (.cells #[x, y] 70)) (.cells cs 38)
    rw [World.size_alloc] at this
    exact (((Below.refl _ _).alloc (Nat.le_refl _) _).block (w.heap.size + 1) (by simp)).trans this
  · have := heap_alloc_new ((w.alloc (.cells #[x, y] 70)).alloc (.cells cs 38)) (.cells #[.slice none 0 0, .slice none 0 0] 70)
    rw [h2] at this
    exact this
theorem Bxs.grown_ {B : Nat} {Z : Nat → Obj} {m : Nat → Option Nat} {w w' : World} {row : Option Nat} (h : Bxs B Z m w) (hg : w.grownBy w' row) (hne : ∀ o, row = some o → ∀ d, m d ≠ some o) : Bxs B Z m w' := fun d X e =>
  ⟨(h d X e).1, (hg.block X (Array.getElem?_eq_some_iff.1 (h d X e).2).1 (fun e2 => hne X e2.symm d e)).trans (h d X e).2⟩
theorem recs_clip {α : Type} {enc : α → List Value} {S : Nat → Prop} {w : World} {A : Option Addr} {n c : Nat} {l : List α} (h : Recs enc S w (.slice A n c) l) : Recs enc S w (.slice A n n) l := by
  obtain ⟨A', c', e, h1, h2, h3⟩ := h
  cases e
  exact ⟨A, _, rfl, Nat.le_refl _, Nat.le_trans h1 h2, h3⟩

set_option maxHeartbeats 4000000 in
theorem rlappend_any (A : Option Addr) (c : Nat) (B : Option Addr) (m d : Nat) (a b u : List Dt) (K : Nat) (S : Nat → Prop) (w : World) (hJ : Jrn S w A c B m d a b u K) (x : Dt) (hx : DtIn x) (hK1 : K + 1 ≤ 200) :
    Calls Try.prog 75 #[.agg #[.slice A 1 c, .slice B m d], .agg #[Value.int .i64 x.proc, Value.int .i64 x.index, Value.int .i64 x.ev.k0, Value.int .i64 x.ev.k1, Value.int .i64 x.ev.k2, Value.int .i64 x.ev.k3, Value.int .i64 x.ev.k4, Value.int .i64 x.ev.k5, Value.int .i64 x.ev.k6], .bool false] w fun e w' => ∃ A' c' B' d', e = .returned (.tuple #[.agg #[.slice A' 1 c', .slice B' (m + 1) d'], .int .i64 0]) ∧ Jrn (fun b => S b ∨ w.heap.size ≤ b) w' A' c' B' (m + 1) d' a b (u ++ [x]) (K + 1) ∧ Below w.heap.size w w' := by
  have hlen := hJ.len
  have hl1 := Lib.hid hlen.1
  obtain ⟨_, hl2, hl3⟩ := hlen
  have hz := hJ.siz
  have hk := hJ.kle
  obtain ⟨W, hW, hbW, SW, R0, R1, R2⟩ := jboxesD w (.slice A 1 c) (.slice B m d) #[Value.int .i64 x.proc, Value.int .i64 x.index, Value.int .i64 x.ev.k0, Value.int .i64 x.ev.k1, Value.int .i64 x.ev.k2, Value.int .i64 x.ev.k3, Value.int .i64 x.ev.k4, Value.int .i64 x.ev.k5, Value.int .i64 x.ev.k6]
  have hJ0 := (hJ.mono (S' := fun b => S b ∧ b < w.heap.size) (fun b hb h => ⟨h, hb⟩)).ext hbW
  go_enter Try.func75, Try.ntmps75
  go_upto_region 1 with fail
  rw [← hW]
  clear hW
  try (go_wp2_with fail)
  refine wp_region_floats true (fun w' => w'.heap[w.heap.size]? = some (.cells #[.slice A 1 c, .slice B m d] 70 (0, 0)) ∧ w'.heap[w.heap.size + 1]? = some (.cells #[Value.int .i64 x.proc, Value.int .i64 x.index, Value.int .i64 x.ev.k0, Value.int .i64 x.ev.k1, Value.int .i64 x.ev.k2, Value.int .i64 x.ev.k3, Value.int .i64 x.ev.k4, Value.int .i64 x.ev.k5, Value.int .i64 x.ev.k6] 38 (0, 0))) [12] ((fun _ => .cells #[Value.int .i64 x.proc, Value.int .i64 x.index, Value.int .i64 x.ev.k0, Value.int .i64 x.ev.k1, Value.int .i64 x.ev.k2, Value.int .i64 x.ev.k3, Value.int .i64 x.ev.k4, Value.int .i64 x.ev.k5, Value.int .i64 x.ev.k6] 38)) (fun _ X => .slice (some ⟨X, 0, none⟩) 1 1) (by kernel_rfl) (by kernel_rfl) (fun _ _ w' h => ⟨row_alloc h.1 _, row_alloc h.2 _⟩) (⟨R0.out, R1.out⟩) ?_
  repeat (first | (refine msL_q1 rfl rfl ?_; go_big_quiet_step (fail); refine wpQuiet_nil ?_) | (refine msL_skip0 rfl rfl rfl ?_; simp only [Act.put, List.setIfInBounds_toArray, List.set_cons_succ, List.set_cons_zero]))
  refine msL_ld (⟨w.heap.size, 1, none⟩) (.slice B m d) rfl rfl rfl rfl (fun w' hw' => ld_jb hw'.1) ?_
  simp only [Act.put, List.setIfInBounds_toArray, List.set_cons_succ, List.set_cons_zero]
  repeat (first | (refine msL_q1 rfl rfl ?_; go_big_quiet_step (fail); refine wpQuiet_nil ?_) | (refine msL_skip0 rfl rfl rfl ?_; simp only [Act.put, List.setIfInBounds_toArray, List.set_cons_succ, List.set_cons_zero]))
  refine msL_e rfl rfl (fun m1 v1 hE1 => ?_)
  go_wp2_with fail
  have x1 := hE1.bxs (Bxs.none_ W.heap.size _ _) (Nat.le_refl _)
  have y1 : Below W.heap.size W v1 := Below.ext (Below.refl _ W).drew hE1.bel
  refine (clipD_any B m d v1 hl2 hl3).mono ?_
  rintro e v1b ⟨rfl, rfl⟩
  have sW := SW.out
  have K0 := Lib.hid ((y1.block w.heap.size (by omega)).trans R0.out)
  have K1 := Lib.hid ((y1.block (w.heap.size + 1) (by omega)).trans R1.out)
  clear sW
  go_wp2_with fail
  refine msL_go (⟨K0.out, K1.out⟩) ?_
  repeat (first | (refine msL_q1 rfl rfl ?_; go_big_quiet_step (fail); refine wpQuiet_nil ?_) | (refine msL_skip0 rfl rfl rfl ?_; simp only [Act.put, List.setIfInBounds_toArray, List.set_cons_succ, List.set_cons_zero]))
  refine msL_ld (⟨w.heap.size + 1, 0, none⟩) (.agg #[Value.int .i64 x.proc, Value.int .i64 x.index, Value.int .i64 x.ev.k0, Value.int .i64 x.ev.k1, Value.int .i64 x.ev.k2, Value.int .i64 x.ev.k3, Value.int .i64 x.ev.k4, Value.int .i64 x.ev.k5, Value.int .i64 x.ev.k6]) rfl rfl rfl rfl (fun w' hw' => run_ld_block hw'.2 Try.underlying38 rfl (by kernel_rfl)) ?_
  simp only [Act.put, List.setIfInBounds_toArray, List.set_cons_succ, List.set_cons_zero]
  repeat (first | (refine msL_q1 rfl rfl ?_; go_big_quiet_step (fail); refine wpQuiet_nil ?_) | (refine msL_skip0 rfl rfl rfl ?_; simp only [Act.put, List.setIfInBounds_toArray, List.set_cons_succ, List.set_cons_zero]))
  refine msL_x 12 rfl (⟨rfl, fun w' => runs_bs rfl (by rw [List.map_toArray]; rfl) (bs_det x w')⟩) (fun m2 v2 X hE2 hX => ?_)
  simp only [Act.put, List.setIfInBounds_toArray, List.set_cons_succ, List.set_cons_zero]
  repeat (first | (refine msL_q1 rfl rfl ?_; go_big_quiet_step (fail); refine wpQuiet_nil ?_) | (refine msL_skip0 rfl rfl rfl ?_; simp only [Act.put, List.setIfInBounds_toArray, List.set_cons_succ, List.set_cons_zero]))
  have x2 := hE2.bxs x1 y1.size
  have y2 := Below.ext y1 hE2.bel
  have rowX := (x2 12 X hX).2
  refine msL_d rfl rfl ((by simp [hX])) ?_
  have hbuf2 := hJ0.buf.ext y2
  refine wpList_appG encDt_len encDt_one (.agg #[.int .i64 0, .int .i64 0, .int .i64 0, .int .i64 0, .int .i64 0, .int .i64 0, .int .i64 0, .int .i64 0, .int .i64 0]) 72 _ _ 27 38 u [x] B m (some ⟨X, 0, none⟩) 1 1 (m + 1) rfl rfl Try.underlying27 infoDt rfl (by omega) rfl rfl (recs_clip hbuf2) (det_one x v2 X rowX) (by omega) rfl (by omega) (by omega) ?_
  intro A4 c4 w4 hO4 hb4 hc41 hc42
  have y4 := Below.ext y2 hb4
  have sW := SW.out
  have K04 := Lib.hid ((y4.block w.heap.size (by omega)).trans R0.out)
  have K14 := Lib.hid ((y4.block (w.heap.size + 1) (by omega)).trans R1.out)
  have K24 := Lib.hid ((y4.block (w.heap.size + 2) (by omega)).trans R2.out)
  have s2 := y2.size
  clear x1 x2 hE1 hE2 rowX K0 K1
  go_wp2_with fail
  refine msL_go (⟨K04.out, K14.out⟩) ?_
  repeat (first | (refine msL_q1 rfl rfl ?_; go_big_quiet_step (fail); refine wpQuiet_nil ?_) | (refine msL_skip0 rfl rfl rfl ?_; simp only [Act.put, List.setIfInBounds_toArray, List.set_cons_succ, List.set_cons_zero]))
  refine msL_d rfl rfl ((by simp [hX])) ?_
  have q1 : w4.cell? ⟨w.heap.size, 1, none⟩ = some (.slice B m d) := row_cell K04.out 1 _ rfl
  have f1 : w4.frozen? ⟨w.heap.size, 1, none⟩ = false := frozen_of_row _ _ _ _ _ K04.out
  obtain ⟨W7, hW7⟩ : ∃ W7, W7 = w4.setCell ⟨w.heap.size, 1, none⟩ (.slice A4 (m + 1) c4) := ⟨_, rfl⟩
  have b7 : Below w.heap.size w W7 := by rw [hW7]; exact Below.setCell (Below.ext hbW y4) (Nat.le_refl _) _
  have g7 : w4.grownBy W7 (some w.heap.size) := by rw [hW7]; exact grown_set (grown_refl _ _)
  have K7 := Lib.hid (show W7.heap[w.heap.size]? = some (.cells #[.slice A 1 c, .slice A4 (m + 1) c4] 70 (0, 0)) by rw [hW7]; exact heap_setCell_same _ _ _ _ _ _ K04.out)
  have s4 := y4.size
  have s7 : w4.heap.size ≤ W7.heap.size := g7.size
  have K27 := Lib.hid ((g7.block (w.heap.size + 2) (by omega) (by simp)).trans K24.out)
  have hD7 := ((hJ0.dsk.ext y4).mono (S' := fun b => (S b ∧ b < w.heap.size) ∨ w.heap.size + 3 ≤ b) (fun b _ h => Or.inl h)).keep (fun b hb h => g7.block b hb (by simp; rcases h with h | h <;> omega))
  have hU7 := (hO4.recs.mono (S' := fun b => (S b ∧ b < w.heap.size) ∨ w.heap.size + 3 ≤ b) (fun b _ h => Or.inr (by have := h.1; omega))).keep (fun b hb h => g7.block b hb (by simp; rcases h with h | h <;> omega))
  go_wp2_with fail
  rw [← hW7]
  clear hW7 q1 f1 hO4 hb4 K04 K14 K24 g7 y1 y2 y4
  refine msL_last ?_
  have hJ7 : Jrn (fun b => (S b ∧ b < w.heap.size) ∨ w.heap.size + 3 ≤ b) W7 A c A4 (m + 1) c4 a b (u ++ [x]) (K + 1) := ⟨hD7, hU7, hJ.ina, hJ.inb, fun y hy => by
    rcases List.mem_append.1 hy with h | h
    · exact hJ.inu y h
    · rw [List.mem_singleton] at h
      subst h
      exact hx, by omega, hK1⟩
  clear hD7 hU7 hJ0
  go_wp2_with (first | (refine wpList_load_row rfl 70 _ rfl _ rfl 70 _ (0,0) _ K7.out Try.underlying70 rfl (by kernel_rfl) ?_) | (refine wpList_store_row rfl 70 _ _ rfl (w.heap.size + 2) 70 _ _ rfl rfl K27.out (by kernel_rfl) rfl (by simp [Value.oneCell']) ?_))
  refine bodyPost_ret (results_ct rfl rfl (run_ld_block (setRow_heap _ _ _ _ _ _ K27.out) Try.underlying70 rfl (by kernel_rfl))) rfl ?_
  refine ⟨A, c, A4, c4, rfl, ?_, Below.setRow b7 (by omega) _⟩
  exact (hJ7.keep (fun b hb h => setRow_other _ _ _ _ (by rcases h with h | h <;> omega))).mono (fun b _ h => by rcases h with h | h; exact Or.inl h.1; exact Or.inr (by omega))

set_option maxHeartbeats 4000000 in
theorem rlappend_now (A : Option Addr) (c : Nat) (B : Option Addr) (m d : Nat) (a b u : List Dt) (K : Nat) (S : Nat → Prop) (w : World) (hJ : Jrn S w A c B m d a b u K) (x : Dt) (hx : DtIn x) (hK1 : K + 1 ≤ 200) :
    Calls Try.prog 75 #[.agg #[.slice A 1 c, .slice B m d], .agg #[Value.int .i64 x.proc, Value.int .i64 x.index, Value.int .i64 x.ev.k0, Value.int .i64 x.ev.k1, Value.int .i64 x.ev.k2, Value.int .i64 x.ev.k3, Value.int .i64 x.ev.k4, Value.int .i64 x.ev.k5, Value.int .i64 x.ev.k6], .bool true] w fun e w' => ∃ A' c' B' d', e = .returned (.tuple #[.agg #[.slice A' 1 c', .slice B' 0 d'], .int .i64 0]) ∧ Jrn (fun b => S b ∨ w.heap.size ≤ b) w' A' c' B' 0 d' (a ++ (b ++ (u ++ [x]))) [] [] (K + 1) ∧ Below w.heap.size w w' := by
  have hlen := hJ.len
  have hl1 := Lib.hid hlen.1
  obtain ⟨_, hl2, hl3⟩ := hlen
  have hz := hJ.siz
  have hk := hJ.kle
  obtain ⟨W, hW, hbW, SW, R0, R1, R2⟩ := jboxesD w (.slice A 1 c) (.slice B m d) #[Value.int .i64 x.proc, Value.int .i64 x.index, Value.int .i64 x.ev.k0, Value.int .i64 x.ev.k1, Value.int .i64 x.ev.k2, Value.int .i64 x.ev.k3, Value.int .i64 x.ev.k4, Value.int .i64 x.ev.k5, Value.int .i64 x.ev.k6]
  have hJ0 := (hJ.mono (S' := fun b => S b ∧ b < w.heap.size) (fun b hb h => ⟨h, hb⟩)).ext hbW
  go_enter Try.func75, Try.ntmps75
  go_upto_region 1 with fail
  rw [← hW]
  clear hW
  try (go_wp2_with fail)
  refine wp_region_floats true (fun w' => w'.heap[w.heap.size]? = some (.cells #[.slice A 1 c, .slice B m d] 70 (0, 0)) ∧ w'.heap[w.heap.size + 1]? = some (.cells #[Value.int .i64 x.proc, Value.int .i64 x.index, Value.int .i64 x.ev.k0, Value.int .i64 x.ev.k1, Value.int .i64 x.ev.k2, Value.int .i64 x.ev.k3, Value.int .i64 x.ev.k4, Value.int .i64 x.ev.k5, Value.int .i64 x.ev.k6] 38 (0, 0))) [12] ((fun _ => .cells #[Value.int .i64 x.proc, Value.int .i64 x.index, Value.int .i64 x.ev.k0, Value.int .i64 x.ev.k1, Value.int .i64 x.ev.k2, Value.int .i64 x.ev.k3, Value.int .i64 x.ev.k4, Value.int .i64 x.ev.k5, Value.int .i64 x.ev.k6] 38)) (fun _ X => .slice (some ⟨X, 0, none⟩) 1 1) (by kernel_rfl) (by kernel_rfl) (fun _ _ w' h => ⟨row_alloc h.1 _, row_alloc h.2 _⟩) (⟨R0.out, R1.out⟩) ?_
  repeat (first | (refine msL_q1 rfl rfl ?_; go_big_quiet_step (fail); refine wpQuiet_nil ?_) | (refine msL_skip0 rfl rfl rfl ?_; simp only [Act.put, List.setIfInBounds_toArray, List.set_cons_succ, List.set_cons_zero]))
  refine msL_ld (⟨w.heap.size, 1, none⟩) (.slice B m d) rfl rfl rfl rfl (fun w' hw' => ld_jb hw'.1) ?_
  simp only [Act.put, List.setIfInBounds_toArray, List.set_cons_succ, List.set_cons_zero]
  repeat (first | (refine msL_q1 rfl rfl ?_; go_big_quiet_step (fail); refine wpQuiet_nil ?_) | (refine msL_skip0 rfl rfl rfl ?_; simp only [Act.put, List.setIfInBounds_toArray, List.set_cons_succ, List.set_cons_zero]))
  refine msL_e rfl rfl (fun m1 v1 hE1 => ?_)
  go_wp2_with fail
  have x1 := hE1.bxs (Bxs.none_ W.heap.size _ _) (Nat.le_refl _)
  have y1 : Below W.heap.size W v1 := Below.ext (Below.refl _ W).drew hE1.bel
  refine (clipD_any B m d v1 hl2 hl3).mono ?_
  rintro e v1b ⟨rfl, rfl⟩
  have sW := SW.out
  have K0 := Lib.hid ((y1.block w.heap.size (by omega)).trans R0.out)
  have K1 := Lib.hid ((y1.block (w.heap.size + 1) (by omega)).trans R1.out)
  clear sW
  go_wp2_with fail
  refine msL_go (⟨K0.out, K1.out⟩) ?_
  repeat (first | (refine msL_q1 rfl rfl ?_; go_big_quiet_step (fail); refine wpQuiet_nil ?_) | (refine msL_skip0 rfl rfl rfl ?_; simp only [Act.put, List.setIfInBounds_toArray, List.set_cons_succ, List.set_cons_zero]))
  refine msL_ld (⟨w.heap.size + 1, 0, none⟩) (.agg #[Value.int .i64 x.proc, Value.int .i64 x.index, Value.int .i64 x.ev.k0, Value.int .i64 x.ev.k1, Value.int .i64 x.ev.k2, Value.int .i64 x.ev.k3, Value.int .i64 x.ev.k4, Value.int .i64 x.ev.k5, Value.int .i64 x.ev.k6]) rfl rfl rfl rfl (fun w' hw' => run_ld_block hw'.2 Try.underlying38 rfl (by kernel_rfl)) ?_
  simp only [Act.put, List.setIfInBounds_toArray, List.set_cons_succ, List.set_cons_zero]
  repeat (first | (refine msL_q1 rfl rfl ?_; go_big_quiet_step (fail); refine wpQuiet_nil ?_) | (refine msL_skip0 rfl rfl rfl ?_; simp only [Act.put, List.setIfInBounds_toArray, List.set_cons_succ, List.set_cons_zero]))
  refine msL_x 12 rfl (⟨rfl, fun w' => runs_bs rfl (by rw [List.map_toArray]; rfl) (bs_det x w')⟩) (fun m2 v2 X hE2 hX => ?_)
  simp only [Act.put, List.setIfInBounds_toArray, List.set_cons_succ, List.set_cons_zero]
  repeat (first | (refine msL_q1 rfl rfl ?_; go_big_quiet_step (fail); refine wpQuiet_nil ?_) | (refine msL_skip0 rfl rfl rfl ?_; simp only [Act.put, List.setIfInBounds_toArray, List.set_cons_succ, List.set_cons_zero]))
  have x2 := hE2.bxs x1 y1.size
  have y2 := Below.ext y1 hE2.bel
  have rowX := (x2 12 X hX).2
  refine msL_d rfl rfl ((by simp [hX])) ?_
  have hbuf2 := hJ0.buf.ext y2
  refine wpList_appG encDt_len encDt_one (.agg #[.int .i64 0, .int .i64 0, .int .i64 0, .int .i64 0, .int .i64 0, .int .i64 0, .int .i64 0, .int .i64 0, .int .i64 0]) 72 _ _ 27 38 u [x] B m (some ⟨X, 0, none⟩) 1 1 (m + 1) rfl rfl Try.underlying27 infoDt rfl (by omega) rfl rfl (recs_clip hbuf2) (det_one x v2 X rowX) (by omega) rfl (by omega) (by omega) ?_
  intro A4 c4 w4 hO4 hb4 hc41 hc42
  have y4 := Below.ext y2 hb4
  have sW := SW.out
  have K04 := Lib.hid ((y4.block w.heap.size (by omega)).trans R0.out)
  have K14 := Lib.hid ((y4.block (w.heap.size + 1) (by omega)).trans R1.out)
  have K24 := Lib.hid ((y4.block (w.heap.size + 2) (by omega)).trans R2.out)
  have s2 := y2.size
  clear x1 x2 hE1 hE2 rowX K0 K1
  go_wp2_with fail
  refine msL_go (⟨K04.out, K14.out⟩) ?_
  repeat (first | (refine msL_q1 rfl rfl ?_; go_big_quiet_step (fail); refine wpQuiet_nil ?_) | (refine msL_skip0 rfl rfl rfl ?_; simp only [Act.put, List.setIfInBounds_toArray, List.set_cons_succ, List.set_cons_zero]))
  refine msL_d rfl rfl ((by simp [hX])) ?_
  have q1 : w4.cell? ⟨w.heap.size, 1, none⟩ = some (.slice B m d) := row_cell K04.out 1 _ rfl
  have f1 : w4.frozen? ⟨w.heap.size, 1, none⟩ = false := frozen_of_row _ _ _ _ _ K04.out
  obtain ⟨W7, hW7⟩ : ∃ W7, W7 = w4.setCell ⟨w.heap.size, 1, none⟩ (.slice A4 (m + 1) c4) := ⟨_, rfl⟩
  have b7 : Below w.heap.size w W7 := by rw [hW7]; exact Below.setCell (Below.ext hbW y4) (Nat.le_refl _) _
  have g7 : w4.grownBy W7 (some w.heap.size) := by rw [hW7]; exact grown_set (grown_refl _ _)
  have K7 := Lib.hid (show W7.heap[w.heap.size]? = some (.cells #[.slice A 1 c, .slice A4 (m + 1) c4] 70 (0, 0)) by rw [hW7]; exact heap_setCell_same _ _ _ _ _ _ K04.out)
  have s4 := y4.size
  have s7 : w4.heap.size ≤ W7.heap.size := g7.size
  have K27 := Lib.hid ((g7.block (w.heap.size + 2) (by omega) (by simp)).trans K24.out)
  have hD7 := ((hJ0.dsk.ext y4).mono (S' := fun b => (S b ∧ b < w.heap.size) ∨ w.heap.size + 3 ≤ b) (fun b _ h => Or.inl h)).keep (fun b hb h => g7.block b hb (by simp; rcases h with h | h <;> omega))
  have hU7 := (hO4.recs.mono (S' := fun b => (S b ∧ b < w.heap.size) ∨ w.heap.size + 3 ≤ b) (fun b _ h => Or.inr (by have := h.1; omega))).keep (fun b hb h => g7.block b hb (by simp; rcases h with h | h <;> omega))
  go_wp2_with fail
  rw [← hW7]
  clear hW7 q1 f1 hO4 hb4 K04 K14 K24 g7 y1 y2 y4
  refine msL_last ?_
  have hJ7 : Jrn (fun b => (S b ∧ b < w.heap.size) ∨ w.heap.size + 3 ≤ b) W7 A c A4 (m + 1) c4 a b (u ++ [x]) (K + 1) := ⟨hD7, hU7, hJ.ina, hJ.inb, fun y hy => by
    rcases List.mem_append.1 hy with h | h
    · exact hJ.inu y h
    · rw [List.mem_singleton] at h
      subst h
      exact hx, by omega, hK1⟩
  clear hD7 hU7 hJ0
  have hfl := rlflush_any A c A4 (m + 1) c4 a b (u ++ [x]) (K + 1) _ W7 hJ7
  have Hfl := Lib.hid hfl
  clear hfl
  go_wp2_with (refine wpList_load_row rfl 70 _ rfl _ rfl 70 _ (0,0) _ K7.out Try.underlying70 rfl (by kernel_rfl) ?_)
  refine Hfl.out.mono ?_
  rintro e w8 ⟨A8, c8, B8, d8, rfl, hJ8, hb8⟩
  have s8 := hb8.size
  have K8 := Lib.hid ((hb8.block (w.heap.size + 2) (by omega)).trans K27.out)
  go_wp2_with (refine wpList_store_row rfl 70 _ _ rfl (w.heap.size + 2) 70 _ _ rfl rfl K8.out (by kernel_rfl) rfl (by simp [Value.oneCell']) ?_)
  refine bodyPost_ret (results_ct rfl rfl (run_ld_block (setRow_heap _ _ _ _ _ _ K8.out) Try.underlying70 rfl (by kernel_rfl))) rfl ?_
  refine ⟨A8, c8, B8, d8, rfl, ?_, Below.setRow (Below.ext b7 hb8) (by omega) _⟩
  exact ((hJ8.mono (S' := fun b => (S b ∧ b < w.heap.size) ∨ w.heap.size + 3 ≤ b) (fun b _ h => by rcases h with h | h; exact h; exact Or.inr (by omega))).keep (fun b hb h => setRow_other _ _ _ _ (by rcases h with h | h <;> omega))).mono (fun b _ h => by rcases h with h | h; exact Or.inl h.1; exact Or.inr (by omega))

set_option maxHeartbeats 4000000 in
theorem refappend30_any (A : Option Addr) (c : Nat) (B : Option Addr) (m d : Nat) (a b u : List Dt) (K : Nat) (S : Nat → Prop) (w : World) (hJ : Jrn S w A c B m d a b u K) (x : Dt) (hx : DtIn x) (hK1 : K + 1 ≤ 200) :
    Calls Try.prog 79 #[.agg #[.slice A 1 c, .slice B m d], .agg #[Value.int .i64 x.proc, Value.int .i64 x.index, Value.int .i64 x.ev.k0, Value.int .i64 x.ev.k1, Value.int .i64 x.ev.k2, Value.int .i64 x.ev.k3, Value.int .i64 x.ev.k4, Value.int .i64 x.ev.k5, Value.int .i64 x.ev.k6], .bool false] w fun e w' => ∃ A' c' B' d', e = .returned (.tuple #[.agg #[.slice A' 1 c', .slice B' (m + 1) d'], .int .i64 0]) ∧ Jrn (fun b => S b ∨ w.heap.size ≤ b) w' A' c' B' (m + 1) d' a b (u ++ [x]) (K + 1) ∧ Below w.heap.size w w' := by
  have hlen := hJ.len
  have hl1 := Lib.hid hlen.1
  obtain ⟨_, hl2, hl3⟩ := hlen
  have hz := hJ.siz
  have hk := hJ.kle
  obtain ⟨W, hW, hbW, SW, R0, R1, R2⟩ := jboxesD w (.slice A 1 c) (.slice B m d) #[Value.int .i64 x.proc, Value.int .i64 x.index, Value.int .i64 x.ev.k0, Value.int .i64 x.ev.k1, Value.int .i64 x.ev.k2, Value.int .i64 x.ev.k3, Value.int .i64 x.ev.k4, Value.int .i64 x.ev.k5, Value.int .i64 x.ev.k6]
  have hJ0 := (hJ.mono (S' := fun b => S b ∧ b < w.heap.size) (fun b hb h => ⟨h, hb⟩)).ext hbW
  go_enter Try.func79, Try.ntmps79
  go_upto_region 1 with fail
  rw [← hW]
  clear hW
  have hne0 : ∀ (p : Nat → Option Nat), (fun _ => none : Nat → Option Nat) = p → p 8 = none := fun p e => by rw [← e]
  try (go_wp2_with fail)
  refine wp_region_floats false (fun w' => w'.heap[w.heap.size]? = some (.cells #[.slice A 1 c, .slice B m d] 70 (0, 0)) ∧ w'.heap[w.heap.size + 1]? = some (.cells #[Value.int .i64 x.proc, Value.int .i64 x.index, Value.int .i64 x.ev.k0, Value.int .i64 x.ev.k1, Value.int .i64 x.ev.k2, Value.int .i64 x.ev.k3, Value.int .i64 x.ev.k4, Value.int .i64 x.ev.k5, Value.int .i64 x.ev.k6] 38 (0, 0))) [15, 8] ((fun d => bif d == 15 then .cells #[Value.int .i64 x.proc, Value.int .i64 x.index, Value.int .i64 x.ev.k0, Value.int .i64 x.ev.k1, Value.int .i64 x.ev.k2, Value.int .i64 x.ev.k3, Value.int .i64 x.ev.k4, Value.int .i64 x.ev.k5, Value.int .i64 x.ev.k6] 38 else .cells #[.slice none 0 0, .slice none 0 0] 70)) (fun d X => bif d == 15 then .slice (some ⟨X, 0, none⟩) 1 1 else .pointer (some ⟨X, 0, none⟩)) (by kernel_rfl) (by kernel_rfl) (fun _ _ w' h => ⟨row_alloc h.1 _, row_alloc h.2 _⟩) (⟨R0.out, R1.out⟩) ?_
  repeat (first | (refine msL_q1 rfl rfl ?_; go_big_quiet_step (fail); refine wpQuiet_nil ?_) | (refine msL_skip0 rfl rfl rfl ?_; simp only [Act.put, List.setIfInBounds_toArray, List.set_cons_succ, List.set_cons_zero]))
  refine msL_ld (⟨w.heap.size, 0, none⟩) (.agg #[.slice A 1 c]) rfl rfl rfl rfl (fun w' hw' => ld_jd hw'.1) ?_
  simp only [Act.put, List.setIfInBounds_toArray, List.set_cons_succ, List.set_cons_zero]
  repeat (first | (refine msL_q1 rfl rfl ?_; go_big_quiet_step (fail); refine wpQuiet_nil ?_) | (refine msL_skip0 rfl rfl rfl ?_; simp only [Act.put, List.setIfInBounds_toArray, List.set_cons_succ, List.set_cons_zero]))
  refine msL_ld (⟨w.heap.size, 1, none⟩) (.slice B m d) rfl rfl rfl rfl (fun w' hw' => ld_jb hw'.1) ?_
  simp only [Act.put, List.setIfInBounds_toArray, List.set_cons_succ, List.set_cons_zero]
  repeat (first | (refine msL_q1 rfl rfl ?_; go_big_quiet_step (fail); refine wpQuiet_nil ?_) | (refine msL_skip0 rfl rfl rfl ?_; simp only [Act.put, List.setIfInBounds_toArray, List.set_cons_succ, List.set_cons_zero]))
  refine msL_e rfl rfl (fun m1 v1 hE1 => ?_)
  have x1 := hE1.bxs (Bxs.none_ W.heap.size _ _) (Nat.le_refl _)
  have y1 : Below W.heap.size W v1 := Below.ext (Below.refl _ W).drew hE1.bel
  refine wpList_appR encDt_len encDt_one (.agg #[.int .i64 0, .int .i64 0, .int .i64 0, .int .i64 0, .int .i64 0, .int .i64 0, .int .i64 0, .int .i64 0, .int .i64 0]) 72 _ _ 27 38 v1.heap.size [] u B m d (.slice none 0 0) m rfl rfl Try.underlying27 infoDt rfl (by omega) rfl rfl (OwnR.nil_ _ _ _) (hJ0.buf.ext y1) (by simp) (by simp; omega) (by simp; omega) (Nat.le_refl _) ?_
  intro A2 c2 w2 hO2 hgr2 hat2 hc21 hc22
  have hb2 := grown_nil hgr2
  have y2 := Below.ext y1 hb2
  have x2 := x1.ext hb2
  have sW := SW.out
  have K02 := Lib.hid ((y2.block w.heap.size (by omega)).trans R0.out)
  have K12 := Lib.hid ((y2.block (w.heap.size + 1) (by omega)).trans R1.out)
  have ho2 : ∀ o, (Value.slice A2 m c2).ownBlock = some o → (v1.heap.size ≤ o ∧ o < w2.heap.size) ∧ ∀ e, m1 e ≠ some o := fun o e => by
    have := World.ownsRow.lt hO2 o e
    exact ⟨this, fun e2 => x1.lt this.1⟩
  clear sW
  go_wp2_with fail
  refine msL_go (⟨K02.out, K12.out⟩) ?_
  repeat (first | (refine msL_q1 rfl rfl ?_; go_big_quiet_step (fail); refine wpQuiet_nil ?_) | (refine msL_skip0 rfl rfl rfl ?_; simp only [Act.put, List.setIfInBounds_toArray, List.set_cons_succ, List.set_cons_zero]))
  refine msL_ld (⟨w.heap.size + 1, 0, none⟩) (.agg #[Value.int .i64 x.proc, Value.int .i64 x.index, Value.int .i64 x.ev.k0, Value.int .i64 x.ev.k1, Value.int .i64 x.ev.k2, Value.int .i64 x.ev.k3, Value.int .i64 x.ev.k4, Value.int .i64 x.ev.k5, Value.int .i64 x.ev.k6]) rfl rfl rfl rfl (fun w' hw' => run_ld_block hw'.2 Try.underlying38 rfl (by kernel_rfl)) ?_
  simp only [Act.put, List.setIfInBounds_toArray, List.set_cons_succ, List.set_cons_zero]
  repeat (first | (refine msL_q1 rfl rfl ?_; go_big_quiet_step (fail); refine wpQuiet_nil ?_) | (refine msL_skip0 rfl rfl rfl ?_; simp only [Act.put, List.setIfInBounds_toArray, List.set_cons_succ, List.set_cons_zero]))
  refine msL_x 15 rfl (⟨rfl, fun w' => runs_bs rfl (by rw [List.map_toArray]; rfl) (bs_det x w')⟩) (fun m2 v2 X hE2 hX => ?_)
  simp only [Act.put, List.setIfInBounds_toArray, List.set_cons_succ, List.set_cons_zero]
  repeat (first | (refine msL_q1 rfl rfl ?_; go_big_quiet_step (fail); refine wpQuiet_nil ?_) | (refine msL_skip0 rfl rfl rfl ?_; simp only [Act.put, List.setIfInBounds_toArray, List.set_cons_succ, List.set_cons_zero]))
  refine msL_e rfl rfl (fun m3 v3 hE3 => ?_)
  have hE23 := hE2.trans hE3
  have x3 := hE23.bxs x2 y2.size
  have y3 := Below.ext y2 hE23.bel
  have hX3 := hE3.keeps hX
  have rowX := (x3 15 X hX3).2
  have hl2' := Lib.hid hO2.len.1
  have sv3 := hE23.bel.size
  have sv2 := hb2.size
  refine wpList_appR encDt_len encDt_one (.agg #[.int .i64 0, .int .i64 0, .int .i64 0, .int .i64 0, .int .i64 0, .int .i64 0, .int .i64 0, .int .i64 0, .int .i64 0]) 72 _ _ 27 38 v1.heap.size u [x] (some ⟨X, 0, none⟩) 1 1 (.slice A2 m c2) (m + 1) rfl rfl Try.underlying27 infoDt rfl (by omega) rfl rfl (hO2.ext hE23.bel) (det_one x v3 X rowX) (by have := hl1.out; omega) (by have := hl1.out; omega) (by have := hl1.out; omega) (by omega) ?_
  intro A4 c4 w4 hO4 hgr4 hat4 hc41 hc42
  have hb4 : Below v1.heap.size v1 w4 := OwnR.grow (hO2.ext hE23.bel) hgr4 (Below.ext hb2 hE23.bel) (Nat.le_refl _) (by omega)
  have y4 := Below.ext y1 hb4
  have hne3 : ∀ o, (Value.slice A2 m c2).ownBlock = some o → ∀ e, m3 e ≠ some o := fun o e q => hE23.ne (ho2 o e).1.2 ((ho2 o e).2 q)
  have x4 := x3.grown_ hgr4 hne3
  have hne4 : ∀ o, (Value.slice A4 (m + 1) c4).ownBlock = some o → (∀ q, m3 q ≠ some o) ∧ W.heap.size ≤ o ∧ o < w4.heap.size := fun o e => by
    have h4 := World.ownsRow.lt hO4 o e
    have := y1.size
    refine ⟨?_, by omega, h4.2⟩
    rcases hat4 with h | h
    · rw [h] at e
      exact hne3 o e
    · rw [h] at e
      cases e
      exact fun q => x3.lt (Nat.le_refl _)
  have sW := SW.out
  have K04 := Lib.hid ((y4.block w.heap.size (by omega)).trans R0.out)
  have K14 := Lib.hid ((y4.block (w.heap.size + 1) (by omega)).trans R1.out)
  clear sW
  go_wp2_with fail
  refine msL_go (⟨K04.out, K14.out⟩) ?_
  repeat (first | (refine msL_q1 rfl rfl ?_; go_big_quiet_step (fail); refine wpQuiet_nil ?_) | (refine msL_skip0 rfl rfl rfl ?_; simp only [Act.put, List.setIfInBounds_toArray, List.set_cons_succ, List.set_cons_zero]))
  refine msL_e rfl rfl (fun m5 v5 hE5 => ?_)
  go_wp2_with fail
  have y5 := Below.ext y4 hE5.bel
  have sW := SW.out
  have K05 := Lib.hid ((y5.block w.heap.size (by omega)).trans R0.out)
  have K15 := Lib.hid ((y5.block (w.heap.size + 1) (by omega)).trans R1.out)
  clear sW
  go_wp2_with fail
  refine msL_go (⟨K05.out, K15.out⟩) ?_
  repeat (first | (refine msL_q1 rfl rfl ?_; go_big_quiet_step (fail); refine wpQuiet_nil ?_) | (refine msL_skip0 rfl rfl rfl ?_; simp only [Act.put, List.setIfInBounds_toArray, List.set_cons_succ, List.set_cons_zero]))
  refine msL_x 8 rfl (⟨rfl, fun w' => alloc_jrn _ _ w' rfl⟩) (fun m6 v6 Y hE6 hY => ?_)
  simp only [Act.put, List.setIfInBounds_toArray, List.set_cons_succ, List.set_cons_zero]
  repeat (first | (refine msL_q1 rfl rfl ?_; go_big_quiet_step (fail); refine wpQuiet_nil ?_) | (refine msL_skip0 rfl rfl rfl ?_; simp only [Act.put, List.setIfInBounds_toArray, List.set_cons_succ, List.set_cons_zero]))
  have hE56 := hE5.trans hE6
  have x6 := hE56.bxs x4 (by have := y4.size; omega)
  have y6 := Below.ext y4 hE56.bel
  have rowY := (x6 8 Y hY).2
  have hWY := (x6 8 Y hY).1
  have hX6 := hE56.keeps hX3
  refine msL_d rfl rfl ((by simp [hX6, hY])) ?_
  refine wpList_store_row rfl 70 _ _ rfl Y 70 _ _ rfl rfl rowY (by kernel_rfl) rfl (by simp [Value.oneCell']) ?_
  obtain ⟨W7, hW7⟩ : ∃ W7, W7 = v6.setRow Y #[.slice A 1 c, .slice A4 (m + 1) c4] := ⟨_, rfl⟩
  have sW := SW.out
  have b7 : Below w.heap.size w W7 := by rw [hW7]; exact Below.setRow (Below.ext hbW y6) (by omega) _
  have g7 : v6.grownBy W7 (some Y) := by rw [hW7]; exact grown_setRow _ _ _
  have K7 := Lib.hid (show W7.heap[Y]? = some (.cells #[.slice A 1 c, .slice A4 (m + 1) c4] 70 (0, 0)) by rw [hW7]; exact setRow_heap _ _ _ _ _ _ rowY)
  have s6 := y6.size
  have s7 : v6.heap.size ≤ W7.heap.size := g7.size
  have K07 := Lib.hid ((g7.block w.heap.size (by omega) (by simp; omega)).trans ((y6.block w.heap.size (by omega)).trans R0.out))
  have K17 := Lib.hid ((g7.block (w.heap.size + 1) (by omega) (by simp; omega)).trans ((y6.block (w.heap.size + 1) (by omega)).trans R1.out))
  have K27 := Lib.hid ((g7.block (w.heap.size + 2) (by omega) (by simp; omega)).trans ((y6.block (w.heap.size + 2) (by omega)).trans R2.out))
  have hD7 := ((hJ0.dsk.ext y6).mono (S' := fun b => (S b ∧ b < w.heap.size) ∨ (w.heap.size + 3 ≤ b ∧ b ≠ Y)) (fun b _ h => Or.inl h)).keep (fun b hb h => g7.block b hb (by simp; rcases h with h | h <;> omega))
  have hU6 := (hO4.recs.mono (S' := fun b => (S b ∧ b < w.heap.size) ∨ (w.heap.size + 3 ≤ b ∧ b ≠ Y)) (fun b hb h => Or.inr ⟨by have := (hne4 b h.2).2.1; omega, fun e => hE56.ne (d := 8) hb ((hne4 b h.2).1 8) (by rw [hY, e])⟩)).ext hE56.bel
  have hU7 := hU6.keep (fun b hb h => g7.block b hb (by simp; rcases h with h | h <;> omega))
  have hD7 := hD7.mono (S' := fun b => (S b ∧ b < w.heap.size) ∨ w.heap.size + 3 ≤ b) (fun b _ h => by rcases h with h | h; exact Or.inl h; exact Or.inr h.1)
  have hU7 := hU7.mono (S' := fun b => (S b ∧ b < w.heap.size) ∨ w.heap.size + 3 ≤ b) (fun b _ h => by rcases h with h | h; exact Or.inl h; exact Or.inr h.1)
  have hYlt : W.heap.size ≤ Y := hWY
  rw [← hW7]
  clear hW7 hO2 hO4 hU6 x1 x2 x3 x4 x6 hE1 hE2 hE3 hE5 hE6 hE23 hE56 hne3 hne4 ho2 hat2 hat4 hgr2 hgr4 rowX rowY g7 y1 y2 y3 y4 y5 y6 K02 K12 K04 K14 K05 K15 hX hX3 hX6 hY
  refine msL_go ⟨K07.out, K17.out⟩ ?_
  simp only [Act.put]
  repeat (first | (refine msL_q1 rfl rfl ?_; go_big_quiet_step (fail); refine wpQuiet_nil ?_) | (refine msL_skip0 rfl rfl rfl ?_; simp only [Act.put, List.setIfInBounds_toArray, List.set_cons_succ, List.set_cons_zero]))
  refine msL_nil ?_
  have hJ7 : Jrn (fun b => (S b ∧ b < w.heap.size) ∨ w.heap.size + 3 ≤ b) W7 A c A4 (m + 1) c4 a b (u ++ [x]) (K + 1) := ⟨hD7, hU7, hJ.ina, hJ.inb, fun y hy => by
    rcases List.mem_append.1 hy with h | h
    · exact hJ.inu y h
    · rw [List.mem_singleton] at h
      subst h
      exact hx, by omega, hK1⟩
  clear hD7 hU7 hJ0
  go_wp2_with (first | (refine wpList_load_row rfl 70 _ rfl _ rfl 70 _ (0,0) _ K7.out Try.underlying70 rfl (by kernel_rfl) ?_) | (refine wpList_store_row rfl 70 _ _ rfl (w.heap.size + 2) 70 _ _ rfl rfl K27.out (by kernel_rfl) rfl (by simp [Value.oneCell']) ?_))
  refine bodyPost_ret (results_ct rfl rfl (run_ld_block (setRow_heap _ _ _ _ _ _ K27.out) Try.underlying70 rfl (by kernel_rfl))) rfl ?_
  refine ⟨A, c, A4, c4, rfl, ?_, Below.setRow b7 (by omega) _⟩
  exact (hJ7.keep (fun b hb h => setRow_other _ _ _ _ (by rcases h with h | h <;> omega))).mono (fun b _ h => by rcases h with h | h; exact Or.inl h.1; exact Or.inr (by omega))

set_option maxHeartbeats 4000000 in
theorem refappend30_now (A : Option Addr) (c : Nat) (B : Option Addr) (m d : Nat) (a b u : List Dt) (K : Nat) (S : Nat → Prop) (w : World) (hJ : Jrn S w A c B m d a b u K) (x : Dt) (hx : DtIn x) (hK1 : K + 1 ≤ 200) :
    Calls Try.prog 79 #[.agg #[.slice A 1 c, .slice B m d], .agg #[Value.int .i64 x.proc, Value.int .i64 x.index, Value.int .i64 x.ev.k0, Value.int .i64 x.ev.k1, Value.int .i64 x.ev.k2, Value.int .i64 x.ev.k3, Value.int .i64 x.ev.k4, Value.int .i64 x.ev.k5, Value.int .i64 x.ev.k6], .bool true] w fun e w' => ∃ A' c' B' d', e = .returned (.tuple #[.agg #[.slice A' 1 c', .slice B' 0 d'], .int .i64 0]) ∧ Jrn (fun b => S b ∨ w.heap.size ≤ b) w' A' c' B' 0 d' (a ++ (b ++ (u ++ [x]))) [] [] (K + 1) ∧ Below w.heap.size w w' := by
  have hlen := hJ.len
  have hl1 := Lib.hid hlen.1
  obtain ⟨_, hl2, hl3⟩ := hlen
  have hz := hJ.siz
  have hk := hJ.kle
  obtain ⟨W, hW, hbW, SW, R0, R1, R2⟩ := jboxesD w (.slice A 1 c) (.slice B m d) #[Value.int .i64 x.proc, Value.int .i64 x.index, Value.int .i64 x.ev.k0, Value.int .i64 x.ev.k1, Value.int .i64 x.ev.k2, Value.int .i64 x.ev.k3, Value.int .i64 x.ev.k4, Value.int .i64 x.ev.k5, Value.int .i64 x.ev.k6]
  have hJ0 := (hJ.mono (S' := fun b => S b ∧ b < w.heap.size) (fun b hb h => ⟨h, hb⟩)).ext hbW
  go_enter Try.func79, Try.ntmps79
  go_upto_region 1 with fail
  rw [← hW]
  clear hW
  have hne0 : ∀ (p : Nat → Option Nat), (fun _ => none : Nat → Option Nat) = p → p 8 = none := fun p e => by rw [← e]
  try (go_wp2_with fail)
  refine wp_region_floats false (fun w' => w'.heap[w.heap.size]? = some (.cells #[.slice A 1 c, .slice B m d] 70 (0, 0)) ∧ w'.heap[w.heap.size + 1]? = some (.cells #[Value.int .i64 x.proc, Value.int .i64 x.index, Value.int .i64 x.ev.k0, Value.int .i64 x.ev.k1, Value.int .i64 x.ev.k2, Value.int .i64 x.ev.k3, Value.int .i64 x.ev.k4, Value.int .i64 x.ev.k5, Value.int .i64 x.ev.k6] 38 (0, 0))) [15, 8] ((fun d => bif d == 15 then .cells #[Value.int .i64 x.proc, Value.int .i64 x.index, Value.int .i64 x.ev.k0, Value.int .i64 x.ev.k1, Value.int .i64 x.ev.k2, Value.int .i64 x.ev.k3, Value.int .i64 x.ev.k4, Value.int .i64 x.ev.k5, Value.int .i64 x.ev.k6] 38 else .cells #[.slice none 0 0, .slice none 0 0] 70)) (fun d X => bif d == 15 then .slice (some ⟨X, 0, none⟩) 1 1 else .pointer (some ⟨X, 0, none⟩)) (by kernel_rfl) (by kernel_rfl) (fun _ _ w' h => ⟨row_alloc h.1 _, row_alloc h.2 _⟩) (⟨R0.out, R1.out⟩) ?_
  repeat (first | (refine msL_q1 rfl rfl ?_; go_big_quiet_step (fail); refine wpQuiet_nil ?_) | (refine msL_skip0 rfl rfl rfl ?_; simp only [Act.put, List.setIfInBounds_toArray, List.set_cons_succ, List.set_cons_zero]))
  refine msL_ld (⟨w.heap.size, 0, none⟩) (.agg #[.slice A 1 c]) rfl rfl rfl rfl (fun w' hw' => ld_jd hw'.1) ?_
  simp only [Act.put, List.setIfInBounds_toArray, List.set_cons_succ, List.set_cons_zero]
  repeat (first | (refine msL_q1 rfl rfl ?_; go_big_quiet_step (fail); refine wpQuiet_nil ?_) | (refine msL_skip0 rfl rfl rfl ?_; simp only [Act.put, List.setIfInBounds_toArray, List.set_cons_succ, List.set_cons_zero]))
  refine msL_ld (⟨w.heap.size, 1, none⟩) (.slice B m d) rfl rfl rfl rfl (fun w' hw' => ld_jb hw'.1) ?_
  simp only [Act.put, List.setIfInBounds_toArray, List.set_cons_succ, List.set_cons_zero]
  repeat (first | (refine msL_q1 rfl rfl ?_; go_big_quiet_step (fail); refine wpQuiet_nil ?_) | (refine msL_skip0 rfl rfl rfl ?_; simp only [Act.put, List.setIfInBounds_toArray, List.set_cons_succ, List.set_cons_zero]))
  refine msL_e rfl rfl (fun m1 v1 hE1 => ?_)
  have x1 := hE1.bxs (Bxs.none_ W.heap.size _ _) (Nat.le_refl _)
  have y1 : Below W.heap.size W v1 := Below.ext (Below.refl _ W).drew hE1.bel
  refine wpList_appR encDt_len encDt_one (.agg #[.int .i64 0, .int .i64 0, .int .i64 0, .int .i64 0, .int .i64 0, .int .i64 0, .int .i64 0, .int .i64 0, .int .i64 0]) 72 _ _ 27 38 v1.heap.size [] u B m d (.slice none 0 0) m rfl rfl Try.underlying27 infoDt rfl (by omega) rfl rfl (OwnR.nil_ _ _ _) (hJ0.buf.ext y1) (by simp) (by simp; omega) (by simp; omega) (Nat.le_refl _) ?_
  intro A2 c2 w2 hO2 hgr2 hat2 hc21 hc22
  have hb2 := grown_nil hgr2
  have y2 := Below.ext y1 hb2
  have x2 := x1.ext hb2
  have sW := SW.out
  have K02 := Lib.hid ((y2.block w.heap.size (by omega)).trans R0.out)
  have K12 := Lib.hid ((y2.block (w.heap.size + 1) (by omega)).trans R1.out)
  have ho2 : ∀ o, (Value.slice A2 m c2).ownBlock = some o → (v1.heap.size ≤ o ∧ o < w2.heap.size) ∧ ∀ e, m1 e ≠ some o := fun o e => by
    have := World.ownsRow.lt hO2 o e
    exact ⟨this, fun e2 => x1.lt this.1⟩
  clear sW
  go_wp2_with fail
  refine msL_go (⟨K02.out, K12.out⟩) ?_
  repeat (first | (refine msL_q1 rfl rfl ?_; go_big_quiet_step (fail); refine wpQuiet_nil ?_) | (refine msL_skip0 rfl rfl rfl ?_; simp only [Act.put, List.setIfInBounds_toArray, List.set_cons_succ, List.set_cons_zero]))
  refine msL_ld (⟨w.heap.size + 1, 0, none⟩) (.agg #[Value.int .i64 x.proc, Value.int .i64 x.index, Value.int .i64 x.ev.k0, Value.int .i64 x.ev.k1, Value.int .i64 x.ev.k2, Value.int .i64 x.ev.k3, Value.int .i64 x.ev.k4, Value.int .i64 x.ev.k5, Value.int .i64 x.ev.k6]) rfl rfl rfl rfl (fun w' hw' => run_ld_block hw'.2 Try.underlying38 rfl (by kernel_rfl)) ?_
  simp only [Act.put, List.setIfInBounds_toArray, List.set_cons_succ, List.set_cons_zero]
  repeat (first | (refine msL_q1 rfl rfl ?_; go_big_quiet_step (fail); refine wpQuiet_nil ?_) | (refine msL_skip0 rfl rfl rfl ?_; simp only [Act.put, List.setIfInBounds_toArray, List.set_cons_succ, List.set_cons_zero]))
  refine msL_x 15 rfl (⟨rfl, fun w' => runs_bs rfl (by rw [List.map_toArray]; rfl) (bs_det x w')⟩) (fun m2 v2 X hE2 hX => ?_)
  simp only [Act.put, List.setIfInBounds_toArray, List.set_cons_succ, List.set_cons_zero]
  repeat (first | (refine msL_q1 rfl rfl ?_; go_big_quiet_step (fail); refine wpQuiet_nil ?_) | (refine msL_skip0 rfl rfl rfl ?_; simp only [Act.put, List.setIfInBounds_toArray, List.set_cons_succ, List.set_cons_zero]))
  refine msL_e rfl rfl (fun m3 v3 hE3 => ?_)
  have hE23 := hE2.trans hE3
  have x3 := hE23.bxs x2 y2.size
  have y3 := Below.ext y2 hE23.bel
  have hX3 := hE3.keeps hX
  have rowX := (x3 15 X hX3).2
  have hl2' := Lib.hid hO2.len.1
  have sv3 := hE23.bel.size
  have sv2 := hb2.size
  refine wpList_appR encDt_len encDt_one (.agg #[.int .i64 0, .int .i64 0, .int .i64 0, .int .i64 0, .int .i64 0, .int .i64 0, .int .i64 0, .int .i64 0, .int .i64 0]) 72 _ _ 27 38 v1.heap.size u [x] (some ⟨X, 0, none⟩) 1 1 (.slice A2 m c2) (m + 1) rfl rfl Try.underlying27 infoDt rfl (by omega) rfl rfl (hO2.ext hE23.bel) (det_one x v3 X rowX) (by have := hl1.out; omega) (by have := hl1.out; omega) (by have := hl1.out; omega) (by omega) ?_
  intro A4 c4 w4 hO4 hgr4 hat4 hc41 hc42
  have hb4 : Below v1.heap.size v1 w4 := OwnR.grow (hO2.ext hE23.bel) hgr4 (Below.ext hb2 hE23.bel) (Nat.le_refl _) (by omega)
  have y4 := Below.ext y1 hb4
  have hne3 : ∀ o, (Value.slice A2 m c2).ownBlock = some o → ∀ e, m3 e ≠ some o := fun o e q => hE23.ne (ho2 o e).1.2 ((ho2 o e).2 q)
  have x4 := x3.grown_ hgr4 hne3
  have hne4 : ∀ o, (Value.slice A4 (m + 1) c4).ownBlock = some o → (∀ q, m3 q ≠ some o) ∧ W.heap.size ≤ o ∧ o < w4.heap.size := fun o e => by
    have h4 := World.ownsRow.lt hO4 o e
    have := y1.size
    refine ⟨?_, by omega, h4.2⟩
    rcases hat4 with h | h
    · rw [h] at e
      exact hne3 o e
    · rw [h] at e
      cases e
      exact fun q => x3.lt (Nat.le_refl _)
  have sW := SW.out
  have K04 := Lib.hid ((y4.block w.heap.size (by omega)).trans R0.out)
  have K14 := Lib.hid ((y4.block (w.heap.size + 1) (by omega)).trans R1.out)
  clear sW
  go_wp2_with fail
  refine msL_go (⟨K04.out, K14.out⟩) ?_
  repeat (first | (refine msL_q1 rfl rfl ?_; go_big_quiet_step (fail); refine wpQuiet_nil ?_) | (refine msL_skip0 rfl rfl rfl ?_; simp only [Act.put, List.setIfInBounds_toArray, List.set_cons_succ, List.set_cons_zero]))
  refine msL_e rfl rfl (fun m5 v5 hE5 => ?_)
  go_wp2_with fail
  have y5 := Below.ext y4 hE5.bel
  have sW := SW.out
  have K05 := Lib.hid ((y5.block w.heap.size (by omega)).trans R0.out)
  have K15 := Lib.hid ((y5.block (w.heap.size + 1) (by omega)).trans R1.out)
  clear sW
  go_wp2_with fail
  refine msL_go (⟨K05.out, K15.out⟩) ?_
  repeat (first | (refine msL_q1 rfl rfl ?_; go_big_quiet_step (fail); refine wpQuiet_nil ?_) | (refine msL_skip0 rfl rfl rfl ?_; simp only [Act.put, List.setIfInBounds_toArray, List.set_cons_succ, List.set_cons_zero]))
  refine msL_x 8 rfl (⟨rfl, fun w' => alloc_jrn _ _ w' rfl⟩) (fun m6 v6 Y hE6 hY => ?_)
  simp only [Act.put, List.setIfInBounds_toArray, List.set_cons_succ, List.set_cons_zero]
  repeat (first | (refine msL_q1 rfl rfl ?_; go_big_quiet_step (fail); refine wpQuiet_nil ?_) | (refine msL_skip0 rfl rfl rfl ?_; simp only [Act.put, List.setIfInBounds_toArray, List.set_cons_succ, List.set_cons_zero]))
  have hE56 := hE5.trans hE6
  have x6 := hE56.bxs x4 (by have := y4.size; omega)
  have y6 := Below.ext y4 hE56.bel
  have rowY := (x6 8 Y hY).2
  have hWY := (x6 8 Y hY).1
  have hX6 := hE56.keeps hX3
  refine msL_d rfl rfl ((by simp [hX6, hY])) ?_
  refine wpList_store_row rfl 70 _ _ rfl Y 70 _ _ rfl rfl rowY (by kernel_rfl) rfl (by simp [Value.oneCell']) ?_
  obtain ⟨W7, hW7⟩ : ∃ W7, W7 = v6.setRow Y #[.slice A 1 c, .slice A4 (m + 1) c4] := ⟨_, rfl⟩
  have sW := SW.out
  have b7 : Below w.heap.size w W7 := by rw [hW7]; exact Below.setRow (Below.ext hbW y6) (by omega) _
  have g7 : v6.grownBy W7 (some Y) := by rw [hW7]; exact grown_setRow _ _ _
  have K7 := Lib.hid (show W7.heap[Y]? = some (.cells #[.slice A 1 c, .slice A4 (m + 1) c4] 70 (0, 0)) by rw [hW7]; exact setRow_heap _ _ _ _ _ _ rowY)
  have s6 := y6.size
  have s7 : v6.heap.size ≤ W7.heap.size := g7.size
  have K07 := Lib.hid ((g7.block w.heap.size (by omega) (by simp; omega)).trans ((y6.block w.heap.size (by omega)).trans R0.out))
  have K17 := Lib.hid ((g7.block (w.heap.size + 1) (by omega) (by simp; omega)).trans ((y6.block (w.heap.size + 1) (by omega)).trans R1.out))
  have K27 := Lib.hid ((g7.block (w.heap.size + 2) (by omega) (by simp; omega)).trans ((y6.block (w.heap.size + 2) (by omega)).trans R2.out))
  have hD7 := ((hJ0.dsk.ext y6).mono (S' := fun b => (S b ∧ b < w.heap.size) ∨ (w.heap.size + 3 ≤ b ∧ b ≠ Y)) (fun b _ h => Or.inl h)).keep (fun b hb h => g7.block b hb (by simp; rcases h with h | h <;> omega))
  have hU6 := (hO4.recs.mono (S' := fun b => (S b ∧ b < w.heap.size) ∨ (w.heap.size + 3 ≤ b ∧ b ≠ Y)) (fun b hb h => Or.inr ⟨by have := (hne4 b h.2).2.1; omega, fun e => hE56.ne (d := 8) hb ((hne4 b h.2).1 8) (by rw [hY, e])⟩)).ext hE56.bel
  have hU7 := hU6.keep (fun b hb h => g7.block b hb (by simp; rcases h with h | h <;> omega))
  have hD7 := hD7.mono (S' := fun b => (S b ∧ b < w.heap.size) ∨ w.heap.size + 3 ≤ b) (fun b _ h => by rcases h with h | h; exact Or.inl h; exact Or.inr h.1)
  have hU7 := hU7.mono (S' := fun b => (S b ∧ b < w.heap.size) ∨ w.heap.size + 3 ≤ b) (fun b _ h => by rcases h with h | h; exact Or.inl h; exact Or.inr h.1)
  have hYlt : W.heap.size ≤ Y := hWY
  rw [← hW7]
  clear hW7 hO2 hO4 hU6 x1 x2 x3 x4 x6 hE1 hE2 hE3 hE5 hE6 hE23 hE56 hne3 hne4 ho2 hat2 hat4 hgr2 hgr4 rowX rowY g7 y1 y2 y3 y4 y5 y6 K02 K12 K04 K14 K05 K15 hX hX3 hX6 hY
  refine msL_go ⟨K07.out, K17.out⟩ ?_
  simp only [Act.put]
  repeat (first | (refine msL_q1 rfl rfl ?_; go_big_quiet_step (fail); refine wpQuiet_nil ?_) | (refine msL_skip0 rfl rfl rfl ?_; simp only [Act.put, List.setIfInBounds_toArray, List.set_cons_succ, List.set_cons_zero]))
  refine msL_nil ?_
  have hJ7 : Jrn (fun b => (S b ∧ b < w.heap.size) ∨ w.heap.size + 3 ≤ b) W7 A c A4 (m + 1) c4 a b (u ++ [x]) (K + 1) := ⟨hD7, hU7, hJ.ina, hJ.inb, fun y hy => by
    rcases List.mem_append.1 hy with h | h
    · exact hJ.inu y h
    · rw [List.mem_singleton] at h
      subst h
      exact hx, by omega, hK1⟩
  clear hD7 hU7 hJ0
  have hfl := refflush_any A c A4 (m + 1) c4 a b (u ++ [x]) (K + 1) _ W7 hJ7
  have Hfl := Lib.hid hfl
  clear hfl
  go_wp2_with (refine wpList_load_row rfl 70 _ rfl _ rfl 70 _ (0,0) _ K7.out Try.underlying70 rfl (by kernel_rfl) ?_)
  refine Hfl.out.mono ?_
  rintro e w8 ⟨A8, c8, B8, d8, rfl, hJ8, hb8⟩
  have s8 := hb8.size
  have K8 := Lib.hid ((hb8.block (w.heap.size + 2) (by omega)).trans K27.out)
  go_wp2_with (refine wpList_store_row rfl 70 _ _ rfl (w.heap.size + 2) 70 _ _ rfl rfl K8.out (by kernel_rfl) rfl (by simp [Value.oneCell']) ?_)
  refine bodyPost_ret (results_ct rfl rfl (run_ld_block (setRow_heap _ _ _ _ _ _ K8.out) Try.underlying70 rfl (by kernel_rfl))) rfl ?_
  refine ⟨A8, c8, B8, d8, rfl, ?_, Below.setRow (Below.ext b7 hb8) (by omega) _⟩
  exact ((hJ8.mono (S' := fun b => (S b ∧ b < w.heap.size) ∨ w.heap.size + 3 ≤ b) (fun b _ h => by rcases h with h | h; exact h; exact Or.inr (by omega))).keep (fun b hb h => setRow_other _ _ _ _ (by rcases h with h | h <;> omega))).mono (fun b _ h => by rcases h with h | h; exact Or.inl h.1; exact Or.inr (by omega))
end Go.Proofs.Ytjcfnpmgklliiaa
