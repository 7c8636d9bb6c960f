/-
  Journals in memory; New and Write of the program and the document.
-/
import Derived.Test.YtjcfnpmgklliiaaWalJ
import Derived.Test.YtjcfnpmgklliiaaFloats
namespace Go.Proofs.Ytjcfnpmgklliiaa
open Go.RowKit
set_option maxRecDepth 100000
set_option linter.unusedVariables false
set_option linter.unusedSimpArgs false

/-- a journal in memory: the determinants that are stable, those that are written, those in the buffer; at most K appends -/
structure Jrn (S : Nat → Prop) (w : World) (A : Option Addr) (c : Nat) (B : Option Addr) (m d : Nat) (a b u : List Dt) (K : Nat) : Prop where
  dsk : Dsk S w (.slice A 1 c) [⟨frL a, frL b⟩]
  buf : Recs encDt S w (.slice B m d) u
  ina : ∀ x ∈ a, DtIn x
  inb : ∀ x ∈ b, DtIn x
  inu : ∀ x ∈ u, DtIn x
  siz : (frL a).length + (frL b).length + 98 * m ≤ 98 * K
  kle : K ≤ 200
section
variable {S S' : Nat → Prop} {w w' : World} {A B : Option Addr} {c m d K : Nat} {a b u : List Dt}
theorem Jrn.ext (h : Jrn S w A c B m d a b u K) (hb : Below w.heap.size w w') : Jrn S w' A c B m d a b u K := ⟨h.dsk.ext hb, h.buf.ext hb, h.ina, h.inb, h.inu, h.siz, h.kle⟩
theorem Jrn.mono (h : Jrn S w A c B m d a b u K) (hs : ∀ b, b < w.heap.size → S b → S' b) : Jrn S' w A c B m d a b u K := ⟨h.dsk.mono hs, h.buf.mono hs, h.ina, h.inb, h.inu, h.siz, h.kle⟩
theorem Jrn.keep (h : Jrn S w A c B m d a b u K) (hk : Keep S w w') : Jrn S w' A c B m d a b u K := ⟨h.dsk.keep hk, h.buf.keep hk, h.ina, h.inb, h.inu, h.siz, h.kle⟩
theorem Jrn.len (h : Jrn S w A c B m d a b u K) : u.length = m ∧ m ≤ d ∧ d ≤ 9223372036854775807 := h.buf.len
theorem Jrn.flen (h : Jrn S w A c B m d a b u K) : ∀ f ∈ [(⟨frL a, frL b⟩ : Fil)], flen f ≤ 30000 := fun f hf => by
  simp only [List.mem_singleton] at hf
  subst hf
  have := h.siz
  have := h.kle
  simp only [Go.Proofs.Ytjcfnpmgklliiaa.flen]
  omega
end
theorem ld_jd {w : World} {b : Nat} {x y : Value} (h : w.heap[b]? = some (.cells #[x, y] 70 (0, 0))) : (loadVar 45 ⟨b, 0, none⟩).run Try.prog w = .ok (.agg #[x]) w := by
  have := run_loadVar_mid (P := Try.prog) w b 0 45 [x] _ (fun j v hv => by
    rw [cell_of_row _ _ _ _ _ _ h, Nat.zero_add]
    cases j with
    | zero => simpa using hv
    | succ j => simp at hv) Try.underlying45 rfl (by kernel_rfl)
  simpa using this
theorem ag_dets (w : World) : (isAgg 27).run Try.prog w = .ok false w := by simp [isAgg, run_underlying Try.underlying27]
theorem ld_jb {w : World} {b : Nat} {x y : Value} (h : w.heap[b]? = some (.cells #[x, y] 70 (0, 0))) : (loadVar 27 ⟨b, 1, none⟩).run Try.prog w = .ok y w :=
  run_ld1 (ag_dets w) (row_cell h 1 _ rfl)
theorem infoJrn : (Try.prog.info? 70).map (fun i => (i.zero, i.size, i.bytes)) = some (some (.agg #[.slice none 0 0, .slice none 0 0]), 2, 48) := by kernel_rfl
theorem alloc_jrn (ρ : Operand → Value) (o : Oper) (w : World) (ho : o.op = .alloc 70) : (execOp ρ o).run Try.prog w = .ok (.value (.pointer (some ⟨w.heap.size, 0, none⟩))) (w.alloc (.cells #[.slice none 0 0, .slice none 0 0] 70)) := by
  obtain ⟨i, hi, hz, _⟩ := info_parts infoJrn
  exact run_alloc_op hi hz ρ o w ho
/-- the box of a journal and the box of the result -/
theorem jboxes (w : World) (x y : Value) : ∃ W, W = (w.alloc (.cells #[x, y] 70)).alloc (.cells #[.slice none 0 0, .slice none 0 0] 70) ∧ Below w.heap.size w W ∧ RowKit.Hid (W.heap.size = w.heap.size + 2) ∧
    RowKit.Hid (W.heap[w.heap.size]? = some (.cells #[x, y] 70 (0, 0))) ∧ RowKit.Hid (W.heap[w.heap.size + 1]? = some (.cells #[.slice none 0 0, .slice none 0 0] 70 (0, 0))) := by
  refine ⟨_, rfl, ((Below.refl _ w).alloc (Nat.le_refl _) _).alloc (by simp) _, Lib.hid (by simp), Lib.hid ?_, Lib.hid ?_⟩
  · exact (((Below.refl _ _).alloc (Nat.le_refl _) _).block w.heap.size (by simp)).trans (heap_alloc_new w _)
  · have := heap_alloc_new (w.alloc (.cells #[x, y] 70)) (.cells #[.slice none 0 0, .slice none 0 0] 70)
    rw [World.size_alloc] at this
    exact this
/-- how many are written -/
def wrN (n : Int) (m : Nat) : Nat := (min (max n 0) (m : Int)).toNat
theorem wrN_le (n : Int) (m : Nat) : wrN n m ≤ m := by unfold wrN; omega
theorem wrN_eq (n : Int) (m : Nat) : min (max n 0) (m : Int) = (wrN n m : Int) ∧ max 0 (min n (m : Int)) = (wrN n m : Int) := by unfold wrN; omega

set_option maxHeartbeats 2000000 in
theorem rlnew_any (w : World) : Calls Try.prog 36 #[] w fun e w' => ∃ A c, e = .returned (.agg #[.slice A 1 c, .slice none 0 0]) ∧ Jrn (w.heap.size ≤ ·) w' A c none 0 0 [] [] [] 0 ∧ Below w.heap.size w w' := by
  obtain ⟨W0, hW0, b0, k0, S0, r0⟩ := boxD w w #[.slice none 0 0, .slice none 0 0] 70 (Below.refl _ _)
  have hnew := new_ok 1 (by omega) W0
  rw [show ((1 : Nat) : Int) = 1 from rfl] at hnew
  have Hnew := Lib.hid hnew
  clear hnew
  go_enter Try.func36, Try.ntmps36
  go_wp2_with fail
  rw [← hW0]
  clear hW0
  refine Hnew.out.mono ?_
  rintro e w1 ⟨A1, c1, rfl, hD1, hb1⟩
  obtain ⟨W2, hW2, b2, k2, S2, r2⟩ := boxD w w1 #[.slice A1 1 c1] 45 (Below.ext b0 hb1)
  go_upto_region 2 with (refine wpList_store_new rfl 45 _ _ rfl 45 _ #[.slice A1 1 c1] rfl rfl (by kernel_rfl) rfl (by simp [Value.oneCell']) ?_)
  rw [← hW2]
  clear hW2
  have s1 := hb1.size
  have s0 := S0.out
  have R0 := Lib.hid ((k2.block w.heap.size (by omega)).trans ((hb1.block w.heap.size (by omega)).trans r0.out))
  have hD2 := hD1.ext k2
  go_wp2_with (first | (refine wpList_load_row rfl 45 _ rfl _ rfl 45 _ (0,0) _ r2.out Try.underlying45 rfl (by kernel_rfl) ?_) | (refine wpList_store_row rfl 70 _ _ rfl w.heap.size 70 _ _ rfl rfl R0.out (by kernel_rfl) rfl (by simp [Value.oneCell']) ?_))
  refine bodyPost_ret (results_c rfl rfl (run_ld_block (setRow_heap _ _ _ _ _ _ R0.out) Try.underlying70 rfl (by kernel_rfl))) rfl ?_
  refine ⟨A1, c1, rfl, ⟨?_, Recs.nil_ _ _, (by simp), (by simp), (by simp), by simp [frL], by omega⟩, Below.setRow b2 (Nat.le_refl _) _⟩
  exact (hD2.mono (S' := fun b => w.heap.size < b) (fun b _ h => by omega)).keep (fun b hb h => setRow_other _ _ _ _ (by omega)) |>.mono (fun b _ h => by omega)

set_option maxHeartbeats 4000000 in
theorem rlwrite_any (A : Option Addr) (c : Nat) (B : Option Addr) (m d : Nat) (a b u : List Dt) (K : Nat) (S : Nat → Prop) (w : World) (n : Int) (hJ : Jrn S w A c B m d a b u K) :
    Calls Try.prog 76 #[.agg #[.slice A 1 c, .slice B m d], .int .i64 n] w fun e w' => ∃ A' c' B' d', e = .returned (.tuple #[.agg #[.slice A' 1 c', .slice B' (m - wrN n m) d'], .int .i64 0]) ∧ Jrn (fun b => S b ∨ w.heap.size ≤ b) w' A' c' B' (m - wrN n m) d' a (b ++ u.take (wrN n m)) (u.drop (wrN n m)) K ∧ Below w.heap.size w w' := by
  have hle := wrN_le n m
  obtain ⟨e1, e2⟩ := wrN_eq n m
  obtain ⟨nn, hnn⟩ : ∃ nn, wrN n m = nn := ⟨_, rfl⟩
  rw [hnn] at e1 e2 hle ⊢
  have hlen := hJ.len
  have hl1 := Lib.hid hlen.1
  obtain ⟨_, hl2, hl3⟩ := hlen
  have hK := hJ.siz
  have hK2 := hJ.kle
  have hin1 : ∀ x ∈ u.take nn, DtIn x := fun x hx => hJ.inu x (List.mem_of_mem_take hx)
  have hft := frL_le (u.take nn) hin1 nn (by rw [List.length_take]; omega)
  obtain ⟨W, hW, hbW, SW, R0, R1⟩ := jboxes w (.slice A 1 c) (.slice B m d)
  have hJ0 := (hJ.mono (S' := fun b => S b ∧ b < w.heap.size) (fun b hb h => ⟨h, hb⟩)).ext hbW
  have hmA := fun w => run_max2 (P := Try.prog) w #[3, 3] 3 n 0
  have hmB := fun w => run_min2 (P := Try.prog) w #[3, 3] 3 (max n 0) (m : Int)
  rw [e1] at hmB
  have q1 : W.cell? ⟨w.heap.size, 1, none⟩ = some (.slice B m d) := row_cell R0.out 1 _ rfl
  have HM1 := Lib.hid hmA
  have HM2 := Lib.hid hmB
  clear hnn e1 e2
  go_enter Try.func76, Try.ntmps76
  go_wp2_with fail
  rw [← hW]
  clear hW
  clear hmA hmB
  have hmA := HM1.out
  have hmB := HM2.out
  go_upto_region 2 with fail
  clear hmA hmB q1
  try (go_wp2_with fail)
  refine wp_region_floats false (fun w' => w'.heap[w.heap.size]? = some (.cells #[.slice A 1 c, .slice B m d] 70 (0, 0))) [6] ((fun _ => .cells #[.slice none 0 0] 45)) (fun _ X => .pointer (some ⟨X, 0, none⟩)) (by kernel_rfl) (by kernel_rfl) (fun _ _ w' h => row_alloc h _) (R0.out) ?_
  repeat (first | (refine msL_q1 rfl rfl ?_; go_big_quiet_step (fail); refine wpQuiet_nil ?_) | (refine msL_skip0 rfl rfl rfl ?_; simp only [Act.put, List.setIfInBounds_toArray, List.set_cons_succ, List.set_cons_zero]))
  refine msL_ld (⟨w.heap.size, 0, none⟩) (.agg #[.slice A 1 c]) rfl rfl rfl rfl (fun w' hw' => ld_jd hw') ?_
  simp only [Act.put, List.setIfInBounds_toArray, List.set_cons_succ, List.set_cons_zero]
  repeat (first | (refine msL_q1 rfl rfl ?_; go_big_quiet_step (fail); refine wpQuiet_nil ?_) | (refine msL_skip0 rfl rfl rfl ?_; simp only [Act.put, List.setIfInBounds_toArray, List.set_cons_succ, List.set_cons_zero]))
  refine msL_ld (⟨w.heap.size, 1, none⟩) (.slice B m d) rfl rfl rfl rfl (fun w' hw' => ld_jb hw') ?_
  simp only [Act.put, List.setIfInBounds_toArray, List.set_cons_succ, List.set_cons_zero]
  repeat (first | (refine msL_q1 rfl rfl ?_; go_big_quiet_step (fail); refine wpQuiet_nil ?_) | (refine msL_skip0 rfl rfl rfl ?_; simp only [Act.put, List.setIfInBounds_toArray, List.set_cons_succ, List.set_cons_zero]))
  refine msL_slR encDt_len (0) (nn) (d) (nn) (d) (u.take nn) rfl rfl rfl rfl Try.underlying27 (by kernel_rfl) (by first | exact .inl ⟨rfl, rfl⟩ | exact .inr ⟨_, _, _, rfl, rfl, by omega⟩) (by first | exact .inl ⟨rfl, rfl, rfl⟩ | exact .inr ⟨_, _, _, rfl, rfl, by omega⟩) (by first | exact .inl ⟨rfl, rfl⟩ | exact .inr ⟨_, _, _, rfl, rfl, by omega⟩) (hJ0.buf) (by omega) (by omega) (by omega) (by omega) (by omega) (by omega) (by first | rfl | (simp; done) | exact (List.take_of_length_le (by simp; omega)).symm) ?_
  intro Ab hRb hcb
  simp only [Act.put, List.setIfInBounds_toArray, List.set_cons_succ, List.set_cons_zero]
  repeat (first | (refine msL_q1 rfl rfl ?_; go_big_quiet_step (fail); refine wpQuiet_nil ?_) | (refine msL_skip0 rfl rfl rfl ?_; simp only [Act.put, List.setIfInBounds_toArray, List.set_cons_succ, List.set_cons_zero]))
  refine msL_e rfl rfl (fun m1 v1 hE1 => ?_)
  go_wp2_with fail
  have x1 := hE1.bxs (Bxs.none_ W.heap.size _ _) (Nat.le_refl _)
  have y1 : Below W.heap.size W v1 := Below.ext (Below.refl _ W).drew hE1.bel
  have hap := walappend_go A 1 c [⟨frL a, frL b⟩] _ v1 (hJ0.dsk.ext y1) (by omega) 0 Ab nn d (u.take nn) _ (hRb.ext y1) hin1 (by omega) hJ.flen [⟨frL a, frL b ++ frL (u.take nn)⟩] 1 0 (.inl ⟨0, _, rfl, rfl, rfl, rfl, rfl⟩)
  refine hap.mono ?_
  rintro e v2 ⟨A2, c2, rfl, hD2, hb2⟩
  have s1 := y1.size
  have sW := SW.out
  have y2 := Below.ext y1 hb2
  have x2 := x1.ext hb2
  have K2 := Lib.hid ((y2.block w.heap.size (by omega)).trans R0.out)
  have hD2' := hD2.mono (S' := fun b => (S b ∧ b < w.heap.size) ∨ (w.heap.size + 2 ≤ b ∧ m1 6 ≠ some b)) (fun b hb h => by
    rcases h with h | h
    · exact .inl h
    · exact .inr ⟨by omega, x1.lt h⟩)
  go_wp2_with fail
  refine msL_go (K2.out) ?_
  repeat (first | (refine msL_q1 rfl rfl ?_; go_big_quiet_step (fail); refine wpQuiet_nil ?_) | (refine msL_skip0 rfl rfl rfl ?_; simp only [Act.put, List.setIfInBounds_toArray, List.set_cons_succ, List.set_cons_zero]))
  refine msL_x 6 rfl (⟨rfl, fun w' => alloc_disk _ _ w' rfl⟩) (fun m3 v3 X hE3 hX => ?_)
  simp only [Act.put, List.setIfInBounds_toArray, List.set_cons_succ, List.set_cons_zero]
  repeat (first | (refine msL_q1 rfl rfl ?_; go_big_quiet_step (fail); refine wpQuiet_nil ?_) | (refine msL_skip0 rfl rfl rfl ?_; simp only [Act.put, List.setIfInBounds_toArray, List.set_cons_succ, List.set_cons_zero]))
  have x3 := hE3.bxs x2 y2.size
  have y3 := Below.ext y2 hE3.bel
  have rowX := (x3 6 X hX).2
  have hWX := (x3 6 X hX).1
  have hD3 := (hD2'.mono (S' := fun b => (S b ∧ b < w.heap.size) ∨ (w.heap.size + 2 ≤ b ∧ b ≠ X)) (fun b hb h => by
    rcases h with h | h
    · exact .inl h
    · exact .inr ⟨h.1, fun e => hE3.ne (d := 6) hb h.2 (by rw [hX, e])⟩)).ext hE3.bel
  refine msL_d rfl rfl ((by simp [hX])) ?_
  refine wpList_store_row rfl 45 _ _ rfl X 45 _ _ rfl rfl rowX (by kernel_rfl) rfl (by simp [Value.oneCell']) ?_
  obtain ⟨V, hV⟩ : ∃ V, V = v3.setRow X #[.slice A2 1 c2] := ⟨_, rfl⟩
  have hgV : v3.grownBy V (some X) := by rw [hV]; exact grown_setRow _ _ _
  have yV : Below W.heap.size W V := by rw [hV]; exact Below.setRow y3 hWX _
  have hDV := hD3.keep (fun b hb h => hgV.block b hb (by simp; rcases h with h | h <;> omega))
  have RX := Lib.hid (show V.heap[X]? = some (.cells #[.slice A2 1 c2] 45 (0, 0)) by rw [hV]; exact setRow_heap _ _ _ _ _ _ rowX)
  have KV := Lib.hid ((yV.block w.heap.size (by omega)).trans R0.out)
  have RV := Lib.hid ((yV.block (w.heap.size + 1) (by omega)).trans R1.out)
  rw [← hV]
  clear hV hgV hD3 hD2 hD2' rowX x1 x2 x3 hE1 hE3 hap hb2 y1 y2 y3 K2
  refine msL_go KV.out ?_
  simp only [Act.put]
  repeat (first | (refine msL_q1 rfl rfl ?_; go_big_quiet_step (fail); refine wpQuiet_nil ?_) | (refine msL_skip0 rfl rfl rfl ?_; simp only [Act.put, List.setIfInBounds_toArray, List.set_cons_succ, List.set_cons_zero]))
  refine msL_nil ?_
  have hbufV := hJ0.buf.ext yV
  have bV : Below w.heap.size w V := Below.ext hbW yV
  have hszV := yV.size
  go_wp2_with fail
  go_wp2_with fail
  refine wp_region_lexL ((fun w' => w'.heap[w.heap.size]? = some (.cells #[.slice A 1 c, .slice B m d] 70 (0, 0)) ∧ w'.heap[X]? = some (.cells #[.slice A2 1 c2] 45 (0, 0)))) (by kernel_rfl) (by kernel_rfl) (⟨KV.out, RX.out⟩) ?_
  repeat (first | (refine lexL_q1 rfl ?_; go_big_quiet_step (fail); refine wpQuiet_nil ?_) | (refine lexL_skip0 rfl rfl ?_; simp only [Act.put, List.setIfInBounds_toArray, List.set_cons_succ, List.set_cons_zero]))
  refine lexL_ld (⟨X, 0, none⟩) (.agg #[.slice A2 1 c2]) rfl rfl rfl (fun w' hw' => run_ld_block hw'.2 Try.underlying45 rfl (by kernel_rfl)) ?_
  simp only [Act.put, List.setIfInBounds_toArray, List.set_cons_succ, List.set_cons_zero]
  repeat (first | (refine lexL_q1 rfl ?_; go_big_quiet_step (fail); refine wpQuiet_nil ?_) | (refine lexL_skip0 rfl rfl ?_; simp only [Act.put, List.setIfInBounds_toArray, List.set_cons_succ, List.set_cons_zero]))
  refine lexL_ld (⟨w.heap.size, 1, none⟩) (.slice B m d) rfl rfl rfl (fun w' hw' => ld_jb hw'.1) ?_
  simp only [Act.put, List.setIfInBounds_toArray, List.set_cons_succ, List.set_cons_zero]
  repeat (first | (refine lexL_q1 rfl ?_; go_big_quiet_step (fail); refine wpQuiet_nil ?_) | (refine lexL_skip0 rfl rfl ?_; simp only [Act.put, List.setIfInBounds_toArray, List.set_cons_succ, List.set_cons_zero]))
  refine lexL_slR encDt_len (nn) (m) (d) (m - nn) (d - nn) (u.drop nn) rfl rfl rfl Try.underlying27 (by kernel_rfl) (by first | exact .inl ⟨rfl, rfl⟩ | exact .inr ⟨_, _, _, rfl, rfl, by omega⟩) (by first | exact .inl ⟨rfl, rfl, rfl⟩ | exact .inr ⟨_, _, _, rfl, rfl, by omega⟩) (by first | exact .inl ⟨rfl, rfl⟩ | exact .inr ⟨_, _, _, rfl, rfl, by omega⟩) (hbufV) (by omega) (by omega) (by omega) (by omega) (by omega) (by omega) (by first | rfl | (simp; done) | exact (List.take_of_length_le (by simp; omega)).symm) ?_
  intro Bd hRd hcd
  simp only [Act.put, List.setIfInBounds_toArray, List.set_cons_succ, List.set_cons_zero]
  repeat (first | (refine lexL_q1 rfl ?_; go_big_quiet_step (fail); refine wpQuiet_nil ?_) | (refine lexL_skip0 rfl rfl ?_; simp only [Act.put, List.setIfInBounds_toArray, List.set_cons_succ, List.set_cons_zero]))
  refine lexL_e rfl ?_
  go_wp2_with fail
  go_wp2_with fail
  refine lexL_go (⟨KV.out, RX.out⟩) ?_
  repeat (first | (refine lexL_q0 rfl ?_; go_big_quiet_step (fail); refine wpQuiet_nil ?_) | (refine lexL_skip0 rfl rfl ?_; simp only [Act.put, List.setIfInBounds_toArray, List.set_cons_succ, List.set_cons_zero]))
  have RZ := RV
  have KZ := KV
  have RXZ := RX
  have hwx : w.heap.size + 1 ≠ X := by omega
  refine lexL_e rfl ?_
  go_wp2_with (refine wpList_store_row rfl 70 _ _ rfl (w.heap.size + 1) 70 _ _ rfl rfl RZ.out (by kernel_rfl) rfl (by simp [Value.oneCell']) ?_)
  refine lexL_go ⟨(setRow_other _ _ _ _ (by omega)).trans KZ.out, (setRow_other _ _ _ _ (Ne.symm hwx)).trans RXZ.out⟩ ?_
  repeat (first | (refine lexL_q1 rfl ?_; go_big_quiet_step (fail); refine wpQuiet_nil ?_) | (refine lexL_skip0 rfl rfl ?_; simp only [Act.put, List.setIfInBounds_toArray, List.set_cons_succ, List.set_cons_zero]))
  refine lexL_nil ?_
  go_wp2_with fail
  refine bodyPost_ret (results_ct rfl rfl (run_ld_block (setRow_heap _ _ _ _ _ _ RZ.out) Try.underlying70 rfl (by kernel_rfl))) rfl ?_
  refine ⟨A2, c2, Bd, (d - nn), rfl, ⟨?_, ?_, hJ.ina, ?_, fun x hx => hJ.inu x (List.mem_of_mem_drop hx), ?_, hK2⟩, Below.setRow (bV.drew) (by omega) _⟩
  · rw [frL_append]
    exact (Dsk.keep (w := V.drew) (w' := V.drew.setRow (w.heap.size + 1) #[.slice A2 1 c2, .slice Bd (m - nn) (d - nn)]) (Dsk.mono (S' := fun b => (S b ∧ b < w.heap.size) ∨ w.heap.size + 2 ≤ b) (hDV.ext (Below.refl _ V).drew) (fun b _ h => by rcases h with h | h; exact Or.inl h; exact Or.inr h.1)) (fun b hb h => setRow_other _ _ _ _ (by rcases h with h | h <;> omega))).mono (fun b _ h => by rcases h with h | h; exact Or.inl h.1; exact Or.inr (by omega))
  · exact (Recs.keep (w := V.drew) (w' := V.drew.setRow (w.heap.size + 1) #[.slice A2 1 c2, .slice Bd (m - nn) (d - nn)]) (Recs.mono (S' := fun b => (S b ∧ b < w.heap.size) ∨ w.heap.size + 2 ≤ b) (Recs.ext hRd (Below.refl _ V).drew) (fun b hb h => Or.inl h)) (fun b hb h => setRow_other _ _ _ _ (by rcases h with h | h <;> omega))).mono (fun b _ h => by rcases h with h | h; exact Or.inl h.1; exact Or.inr (by omega))
  · intro x hx
    rcases List.mem_append.1 hx with h | h
    · exact hJ.inb x h
    · exact hin1 x h
  · rw [frL_append, List.length_append]
    have : 98 * (m - nn) + 98 * nn = 98 * m := by omega
    omega

set_option maxHeartbeats 4000000 in
theorem refwrite_any (A : Option Addr) (c : Nat) (B : Option Addr) (m d : Nat) (a b u : List Dt) (K : Nat) (S : Nat → Prop) (w : World) (n : Int) (hJ : Jrn S w A c B m d a b u K) :
    Calls Try.prog 80 #[.agg #[.slice A 1 c, .slice B m d], .int .i64 n] w fun e w' => ∃ A' c' B' d', e = .returned (.tuple #[.agg #[.slice A' 1 c', .slice B' (m - wrN n m) d'], .int .i64 0]) ∧ Jrn (fun b => S b ∨ w.heap.size ≤ b) w' A' c' B' (m - wrN n m) d' a (b ++ u.take (wrN n m)) (u.drop (wrN n m)) K ∧ Below w.heap.size w w' := by
  have hle := wrN_le n m
  obtain ⟨e1, e2⟩ := wrN_eq n m
  obtain ⟨nn, hnn⟩ : ∃ nn, wrN n m = nn := ⟨_, rfl⟩
  rw [hnn] at e1 e2 hle ⊢
  have hlen := hJ.len
  have hl1 := Lib.hid hlen.1
  obtain ⟨_, hl2, hl3⟩ := hlen
  have hK := hJ.siz
  have hK2 := hJ.kle
  have hin1 : ∀ x ∈ u.take nn, DtIn x := fun x hx => hJ.inu x (List.mem_of_mem_take hx)
  have hft := frL_le (u.take nn) hin1 nn (by rw [List.length_take]; omega)
  obtain ⟨W, hW, hbW, SW, R0, R1⟩ := jboxes w (.slice A 1 c) (.slice B m d)
  have hJ0 := (hJ.mono (S' := fun b => S b ∧ b < w.heap.size) (fun b hb h => ⟨h, hb⟩)).ext hbW
  have hmA := fun w => run_min2 (P := Try.prog) w #[3, 3] 3 n (m : Int)
  have hmB := fun w => run_max2 (P := Try.prog) w #[3, 3] 3 0 (min n (m : Int))
  rw [e2] at hmB
  have q1 : W.cell? ⟨w.heap.size, 1, none⟩ = some (.slice B m d) := row_cell R0.out 1 _ rfl
  have HM1 := Lib.hid hmA
  have HM2 := Lib.hid hmB
  clear hnn e1 e2
  go_enter Try.func80, Try.ntmps80
  go_wp2_with fail
  rw [← hW]
  clear hW
  clear hmA hmB
  have hmA := HM1.out
  have hmB := HM2.out
  go_upto_region 2 with fail
  clear hmA hmB q1
  try (go_wp2_with fail)
  refine wp_region_floats false (fun w' => w'.heap[w.heap.size]? = some (.cells #[.slice A 1 c, .slice B m d] 70 (0, 0))) [6] ((fun _ => .cells #[.slice none 0 0] 45)) (fun _ X => .pointer (some ⟨X, 0, none⟩)) (by kernel_rfl) (by kernel_rfl) (fun _ _ w' h => row_alloc h _) (R0.out) ?_
  repeat (first | (refine msL_q1 rfl rfl ?_; go_big_quiet_step (fail); refine wpQuiet_nil ?_) | (refine msL_skip0 rfl rfl rfl ?_; simp only [Act.put, List.setIfInBounds_toArray, List.set_cons_succ, List.set_cons_zero]))
  refine msL_ld (⟨w.heap.size, 0, none⟩) (.agg #[.slice A 1 c]) rfl rfl rfl rfl (fun w' hw' => ld_jd hw') ?_
  simp only [Act.put, List.setIfInBounds_toArray, List.set_cons_succ, List.set_cons_zero]
  repeat (first | (refine msL_q1 rfl rfl ?_; go_big_quiet_step (fail); refine wpQuiet_nil ?_) | (refine msL_skip0 rfl rfl rfl ?_; simp only [Act.put, List.setIfInBounds_toArray, List.set_cons_succ, List.set_cons_zero]))
  refine msL_ld (⟨w.heap.size, 1, none⟩) (.slice B m d) rfl rfl rfl rfl (fun w' hw' => ld_jb hw') ?_
  simp only [Act.put, List.setIfInBounds_toArray, List.set_cons_succ, List.set_cons_zero]
  repeat (first | (refine msL_q1 rfl rfl ?_; go_big_quiet_step (fail); refine wpQuiet_nil ?_) | (refine msL_skip0 rfl rfl rfl ?_; simp only [Act.put, List.setIfInBounds_toArray, List.set_cons_succ, List.set_cons_zero]))
  refine msL_slR encDt_len (0) (nn) (d) (nn) (d) (u.take nn) rfl rfl rfl rfl Try.underlying27 (by kernel_rfl) (by first | exact .inl ⟨rfl, rfl⟩ | exact .inr ⟨_, _, _, rfl, rfl, by omega⟩) (by first | exact .inl ⟨rfl, rfl, rfl⟩ | exact .inr ⟨_, _, _, rfl, rfl, by omega⟩) (by first | exact .inl ⟨rfl, rfl⟩ | exact .inr ⟨_, _, _, rfl, rfl, by omega⟩) (hJ0.buf) (by omega) (by omega) (by omega) (by omega) (by omega) (by omega) (by first | rfl | (simp; done) | exact (List.take_of_length_le (by simp; omega)).symm) ?_
  intro Ab hRb hcb
  simp only [Act.put, List.setIfInBounds_toArray, List.set_cons_succ, List.set_cons_zero]
  repeat (first | (refine msL_q1 rfl rfl ?_; go_big_quiet_step (fail); refine wpQuiet_nil ?_) | (refine msL_skip0 rfl rfl rfl ?_; simp only [Act.put, List.setIfInBounds_toArray, List.set_cons_succ, List.set_cons_zero]))
  refine msL_e rfl rfl (fun m1 v1 hE1 => ?_)
  go_wp2_with fail
  have x1 := hE1.bxs (Bxs.none_ W.heap.size _ _) (Nat.le_refl _)
  have y1 : Below W.heap.size W v1 := Below.ext (Below.refl _ W).drew hE1.bel
  have hap := refwalappend_go A 1 c [⟨frL a, frL b⟩] _ v1 (hJ0.dsk.ext y1) (by omega) 0 Ab nn d (u.take nn) _ (hRb.ext y1) hin1 (by omega) hJ.flen [⟨frL a, frL b ++ frL (u.take nn)⟩] 1 0 (.inl ⟨0, _, rfl, rfl, rfl, rfl, rfl⟩)
  refine hap.mono ?_
  rintro e v2 ⟨A2, c2, rfl, hD2, hb2⟩
  have s1 := y1.size
  have sW := SW.out
  have y2 := Below.ext y1 hb2
  have x2 := x1.ext hb2
  have K2 := Lib.hid ((y2.block w.heap.size (by omega)).trans R0.out)
  have hD2' := hD2.mono (S' := fun b => (S b ∧ b < w.heap.size) ∨ (w.heap.size + 2 ≤ b ∧ m1 6 ≠ some b)) (fun b hb h => by
    rcases h with h | h
    · exact .inl h
    · exact .inr ⟨by omega, x1.lt h⟩)
  go_wp2_with fail
  refine msL_go (K2.out) ?_
  repeat (first | (refine msL_q1 rfl rfl ?_; go_big_quiet_step (fail); refine wpQuiet_nil ?_) | (refine msL_skip0 rfl rfl rfl ?_; simp only [Act.put, List.setIfInBounds_toArray, List.set_cons_succ, List.set_cons_zero]))
  refine msL_x 6 rfl (⟨rfl, fun w' => alloc_disk _ _ w' rfl⟩) (fun m3 v3 X hE3 hX => ?_)
  simp only [Act.put, List.setIfInBounds_toArray, List.set_cons_succ, List.set_cons_zero]
  repeat (first | (refine msL_q1 rfl rfl ?_; go_big_quiet_step (fail); refine wpQuiet_nil ?_) | (refine msL_skip0 rfl rfl rfl ?_; simp only [Act.put, List.setIfInBounds_toArray, List.set_cons_succ, List.set_cons_zero]))
  have x3 := hE3.bxs x2 y2.size
  have y3 := Below.ext y2 hE3.bel
  have rowX := (x3 6 X hX).2
  have hWX := (x3 6 X hX).1
  have hD3 := (hD2'.mono (S' := fun b => (S b ∧ b < w.heap.size) ∨ (w.heap.size + 2 ≤ b ∧ b ≠ X)) (fun b hb h => by
    rcases h with h | h
    · exact .inl h
    · exact .inr ⟨h.1, fun e => hE3.ne (d := 6) hb h.2 (by rw [hX, e])⟩)).ext hE3.bel
  refine msL_d rfl rfl ((by simp [hX])) ?_
  refine wpList_store_row rfl 45 _ _ rfl X 45 _ _ rfl rfl rowX (by kernel_rfl) rfl (by simp [Value.oneCell']) ?_
  obtain ⟨V, hV⟩ : ∃ V, V = v3.setRow X #[.slice A2 1 c2] := ⟨_, rfl⟩
  have hgV : v3.grownBy V (some X) := by rw [hV]; exact grown_setRow _ _ _
  have yV : Below W.heap.size W V := by rw [hV]; exact Below.setRow y3 hWX _
  have hDV := hD3.keep (fun b hb h => hgV.block b hb (by simp; rcases h with h | h <;> omega))
  have RX := Lib.hid (show V.heap[X]? = some (.cells #[.slice A2 1 c2] 45 (0, 0)) by rw [hV]; exact setRow_heap _ _ _ _ _ _ rowX)
  have KV := Lib.hid ((yV.block w.heap.size (by omega)).trans R0.out)
  have RV := Lib.hid ((yV.block (w.heap.size + 1) (by omega)).trans R1.out)
  rw [← hV]
  clear hV hgV hD3 hD2 hD2' rowX x1 x2 x3 hE1 hE3 hap hb2 y1 y2 y3 K2
  refine msL_go KV.out ?_
  simp only [Act.put]
  repeat (first | (refine msL_q1 rfl rfl ?_; go_big_quiet_step (fail); refine wpQuiet_nil ?_) | (refine msL_skip0 rfl rfl rfl ?_; simp only [Act.put, List.setIfInBounds_toArray, List.set_cons_succ, List.set_cons_zero]))
  refine msL_nil ?_
  have hbufV := hJ0.buf.ext yV
  have bV : Below w.heap.size w V := Below.ext hbW yV
  have hszV := yV.size
  go_wp2_with fail
  go_wp2_with fail
  refine wp_region_lexL ((fun w' => w'.heap[w.heap.size]? = some (.cells #[.slice A 1 c, .slice B m d] 70 (0, 0)) ∧ w'.heap[X]? = some (.cells #[.slice A2 1 c2] 45 (0, 0)))) (by kernel_rfl) (by kernel_rfl) (⟨KV.out, RX.out⟩) ?_
  repeat (first | (refine lexL_q1 rfl ?_; go_big_quiet_step (fail); refine wpQuiet_nil ?_) | (refine lexL_skip0 rfl rfl ?_; simp only [Act.put, List.setIfInBounds_toArray, List.set_cons_succ, List.set_cons_zero]))
  refine lexL_ld (⟨X, 0, none⟩) (.agg #[.slice A2 1 c2]) rfl rfl rfl (fun w' hw' => run_ld_block hw'.2 Try.underlying45 rfl (by kernel_rfl)) ?_
  simp only [Act.put, List.setIfInBounds_toArray, List.set_cons_succ, List.set_cons_zero]
  repeat (first | (refine lexL_q1 rfl ?_; go_big_quiet_step (fail); refine wpQuiet_nil ?_) | (refine lexL_skip0 rfl rfl ?_; simp only [Act.put, List.setIfInBounds_toArray, List.set_cons_succ, List.set_cons_zero]))
  refine lexL_ld (⟨w.heap.size, 1, none⟩) (.slice B m d) rfl rfl rfl (fun w' hw' => ld_jb hw'.1) ?_
  simp only [Act.put, List.setIfInBounds_toArray, List.set_cons_succ, List.set_cons_zero]
  repeat (first | (refine lexL_q1 rfl ?_; go_big_quiet_step (fail); refine wpQuiet_nil ?_) | (refine lexL_skip0 rfl rfl ?_; simp only [Act.put, List.setIfInBounds_toArray, List.set_cons_succ, List.set_cons_zero]))
  refine lexL_slR encDt_len (nn) (m) (d) (m - nn) (d - nn) (u.drop nn) rfl rfl rfl Try.underlying27 (by kernel_rfl) (by first | exact .inl ⟨rfl, rfl⟩ | exact .inr ⟨_, _, _, rfl, rfl, by omega⟩) (by first | exact .inl ⟨rfl, rfl, rfl⟩ | exact .inr ⟨_, _, _, rfl, rfl, by omega⟩) (by first | exact .inl ⟨rfl, rfl⟩ | exact .inr ⟨_, _, _, rfl, rfl, by omega⟩) (hbufV) (by omega) (by omega) (by omega) (by omega) (by omega) (by omega) (by first | rfl | (simp; done) | exact (List.take_of_length_le (by simp; omega)).symm) ?_
  intro Bd hRd hcd
  simp only [Act.put, List.setIfInBounds_toArray, List.set_cons_succ, List.set_cons_zero]
  repeat (first | (refine lexL_q1 rfl ?_; go_big_quiet_step (fail); refine wpQuiet_nil ?_) | (refine lexL_skip0 rfl rfl ?_; simp only [Act.put, List.setIfInBounds_toArray, List.set_cons_succ, List.set_cons_zero]))
  refine lexL_e rfl ?_
  go_wp2_with (refine wpList_appR (o := ⟨some 33, _, _, _, _, _⟩) encDt_len encDt_one (.agg #[.int .i64 0, .int .i64 0, .int .i64 0, .int .i64 0, .int .i64 0, .int .i64 0, .int .i64 0, .int .i64 0, .int .i64 0]) 72 _ _ 27 38 V.heap.size [] (u.drop nn) Bd (m - nn) (d - nn) (.slice none 0 0) (m - nn) rfl rfl Try.underlying27 infoDt rfl (by omega) rfl rfl (OwnR.nil_ _ _ _) hRd (by simp) (by simp; omega) (by simp; omega) (Nat.le_refl _) ?_; intro A7 c7 w7 hO7 hgr7 hat7 hc71 hc72)
  have hb7 : Below V.heap.size V w7 := (Below.refl _ V).drew.trans (grown_nil hgr7)
  have RZ := Lib.hid ((hb7.block (w.heap.size + 1) (by omega)).trans RV.out)
  have KZ := Lib.hid ((hb7.block w.heap.size (by omega)).trans KV.out)
  have RXZ := Lib.hid ((hb7.block X (Array.getElem?_eq_some_iff.1 RX.out).1).trans RX.out)
  have hD7 := hDV.ext hb7
  have b7 := Below.ext bV hb7
  go_wp2_with fail
  refine lexL_go (⟨KZ.out, RXZ.out⟩) ?_
  repeat (first | (refine lexL_q0 rfl ?_; go_big_quiet_step (fail); refine wpQuiet_nil ?_) | (refine lexL_skip0 rfl rfl ?_; simp only [Act.put, List.setIfInBounds_toArray, List.set_cons_succ, List.set_cons_zero]))
  refine lexL_e rfl ?_
  go_wp2_with fail
  go_wp2_with fail
  refine lexL_go (⟨KZ.out, RXZ.out⟩) ?_
  repeat (first | (refine lexL_q0 rfl ?_; go_big_quiet_step (fail); refine wpQuiet_nil ?_) | (refine lexL_skip0 rfl rfl ?_; simp only [Act.put, List.setIfInBounds_toArray, List.set_cons_succ, List.set_cons_zero]))
  have hwx : w.heap.size + 1 ≠ X := by omega
  refine lexL_e rfl ?_
  go_wp2_with (refine wpList_store_row rfl 70 _ _ rfl (w.heap.size + 1) 70 _ _ rfl rfl RZ.out (by kernel_rfl) rfl (by simp [Value.oneCell']) ?_)
  refine lexL_go ⟨(setRow_other _ _ _ _ (by omega)).trans KZ.out, (setRow_other _ _ _ _ (Ne.symm hwx)).trans RXZ.out⟩ ?_
  repeat (first | (refine lexL_q1 rfl ?_; go_big_quiet_step (fail); refine wpQuiet_nil ?_) | (refine lexL_skip0 rfl rfl ?_; simp only [Act.put, List.setIfInBounds_toArray, List.set_cons_succ, List.set_cons_zero]))
  refine lexL_nil ?_
  go_wp2_with fail
  refine bodyPost_ret (results_ct rfl rfl (run_ld_block (setRow_heap _ _ _ _ _ _ RZ.out) Try.underlying70 rfl (by kernel_rfl))) rfl ?_
  refine ⟨A2, c2, A7, c7, rfl, ⟨?_, ?_, hJ.ina, ?_, fun x hx => hJ.inu x (List.mem_of_mem_drop hx), ?_, hK2⟩, Below.setRow (b7) (by omega) _⟩
  · rw [frL_append]
    exact (Dsk.keep (w := w7) (w' := w7.setRow (w.heap.size + 1) #[.slice A2 1 c2, .slice A7 (m - nn) c7]) (Dsk.mono (S' := fun b => (S b ∧ b < w.heap.size) ∨ w.heap.size + 2 ≤ b) (hD7) (fun b _ h => by rcases h with h | h; exact Or.inl h; exact Or.inr h.1)) (fun b hb h => setRow_other _ _ _ _ (by rcases h with h | h <;> omega))).mono (fun b _ h => by rcases h with h | h; exact Or.inl h.1; exact Or.inr (by omega))
  · exact (Recs.keep (w := w7) (w' := w7.setRow (w.heap.size + 1) #[.slice A2 1 c2, .slice A7 (m - nn) c7]) (Recs.mono (S' := fun b => (S b ∧ b < w.heap.size) ∨ w.heap.size + 2 ≤ b) (hO7.recs) (fun b hb h => Or.inr (by omega))) (fun b hb h => setRow_other _ _ _ _ (by rcases h with h | h <;> omega))).mono (fun b _ h => by rcases h with h | h; exact Or.inl h.1; exact Or.inr (by omega))
  · intro x hx
    rcases List.mem_append.1 hx with h | h
    · exact hJ.inb x h
    · exact hin1 x h
  · rw [frL_append, List.length_append]
    have : 98 * (m - nn) + 98 * nn = 98 * m := by omega
    omega
end Go.Proofs.Ytjcfnpmgklliiaa
