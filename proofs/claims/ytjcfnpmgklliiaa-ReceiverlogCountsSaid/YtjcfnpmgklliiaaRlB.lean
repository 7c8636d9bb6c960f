/-
  Journals: New of the document; Flush and Crash of both.
-/
import Derived.Test.YtjcfnpmgklliiaaRlA
namespace Go.Proofs.Ytjcfnpmgklliiaa
open Go.RowKit
set_option maxRecDepth 100000
set_option linter.unusedVariables false
set_option linter.unusedSimpArgs false

theorem wpList_ldv {P : Program} {ops : Array Oper} {Q : Exit → Act → World → Prop} {o : Oper} {a : Act} {w : World} {rest : List Oper} {t : TypeId} {x : Operand} {A : Addr} {v : Value} (hw : Region.wanted o (yielded ops a.tmps) = true) (ho : o.op = .load t x) (hx : a.eval x = .pointer (some A))
    (hl : (loadVar t A).run P w = .ok v w) (h : wpList P ops Q rest (a.put o.dst v) w) : wpList P ops Q (o :: rest) a w := by
  simp only [wpList, hw, if_true]
  refine .inl ?_
  unfold Oper.wp execOp
  simp only [ho, hx, Instr.loadAt, Instr.sureAddr, Sem.run_bind, Sem.run_pure, Result.andThen_ok, hl, Oper.upon]
  exact h
theorem jboxes3 (w : World) (x y k l : Value) : ∃ W, W = ((w.alloc (.cells #[x, y] 70)).alloc (.cells #[k, l] 57)).alloc (.cells #[.slice none 0 0, .slice none 0 0] 70) ∧ Below w.heap.size w W ∧ RowKit.Hid (W.heap.size = w.heap.size + 3) ∧
    RowKit.Hid (W.heap[w.heap.size]? = some (.cells #[x, y] 70 (0, 0))) ∧ RowKit.Hid (W.heap[w.heap.size + 1]? = some (.cells #[k, l] 57 (0, 0))) ∧ RowKit.Hid (W.heap[w.heap.size + 2]? = some (.cells #[.slice none 0 0, .slice none 0 0] 70 (0, 0))) := by
  have h2 : ((w.alloc (.cells #[x, y] 70)).alloc (.cells #[k, l] 57)).heap.size = w.heap.size + 2 := by simp
  refine ⟨_, rfl, (((Below.refl _ w).alloc (Nat.le_refl _) _).alloc (by simp) _).alloc (by simp; omega) _, Lib.hid (by simp), Lib.hid ?_, Lib.hid ?_, Lib.hid ?_⟩
  · exact (((Below.refl _ _).alloc (Nat.le_refl _) _).block w.heap.size (by simp; omega)).trans ((((Below.refl _ _).alloc (Nat.le_refl _) _).block w.heap.size (by simp)).trans (heap_alloc_new w _))
  · have := heap_alloc_new (w.alloc (.cells #[x, y] 70)) (.cells #[k, l] 57)
    rw [World.size_alloc] at this
    exact (((Below.refl _ _).alloc (Nat.le_refl _) _).block (w.heap.size + 1) (by simp)).trans this
  · have := heap_alloc_new ((w.alloc (.cells #[x, y] 70)).alloc (.cells #[k, l] 57)) (.cells #[.slice none 0 0, .slice none 0 0] 70)
    rw [h2] at this
    exact this
set_option maxHeartbeats 2000000 in
theorem refnew30_any (w : World) : Calls Try.prog 43 #[] w fun e w' => ∃ A c, e = .returned (.agg #[.slice A 1 c, .slice none 0 0]) ∧ Jrn (w.heap.size ≤ ·) w' A c none 0 0 [] [] [] 0 ∧ Below w.heap.size w w' := by
  obtain ⟨W0, hW0, b0, k0, S0, r0⟩ := boxD w w #[.slice none 0 0, .slice none 0 0] 70 (Below.refl _ _)
  have hmk := mkFiles 1 (by omega)
  rw [show ((1 : Nat) : Int) = 1 from rfl] at hmk
  have hown := mkOwn 1 (by omega) W0
  have k1 : ∀ o, Below W0.heap.size W0 (W0.alloc o) := fun o => (Below.refl _ _).alloc (Nat.le_refl _) _
  have s0 := S0.out
  have R0 := Lib.hid (fun o => ((k1 o).block w.heap.size (by omega)).trans r0.out)
  have HMK := Lib.hid hmk
  have hD := zero_dsk hown.recs
  rw [s0] at hD
  clear hmk
  go_enter Try.func43, Try.ntmps43
  go_upto_region 1 with fail
  rw [← hW0]
  clear hW0
  have hmk := HMK.out
  go_wp2_with (refine wpList_store_row rfl 70 _ _ rfl w.heap.size 70 _ _ rfl rfl (R0.out _) (by kernel_rfl) rfl (by simp [Value.oneCell']) ?_)
  refine bodyPost_ret (results_c rfl rfl (run_ld_block (setRow_heap _ _ _ _ _ _ (R0.out _)) Try.underlying70 rfl (by kernel_rfl))) rfl ?_
  refine ⟨_, _, rfl, ⟨?_, Recs.nil_ _ _, (by simp), (by simp), (by simp), by simp [frL], by omega⟩, Below.setRow (Below.ext b0 (k1 _)) (Nat.le_refl _) _⟩
  exact ((hD.mono (S' := fun b => w.heap.size < b) (fun b _ h => by have := h.1; omega)).keep (fun b hb h => setRow_other _ w.heap.size _ _ (by omega))).mono (fun b _ h => by omega)

set_option maxHeartbeats 4000000 in
theorem rlflush_any (A : Option Addr) (c : Nat) (B : Option Addr) (m d : Nat) (a b u : List Dt) (K : Nat) (S : Nat → Prop) (w : World) (hJ : Jrn S w A c B m d a b u K) :
    Calls Try.prog 77 #[.agg #[.slice A 1 c, .slice B m d]] w fun e w' => ∃ A' c' B' d', e = .returned (.tuple #[.agg #[.slice A' 1 c', .slice B' 0 d'], .int .i64 0]) ∧ Jrn (fun b => S b ∨ w.heap.size ≤ b) w' A' c' B' 0 d' (a ++ (b ++ u)) [] [] K ∧ Below w.heap.size w w' := by
  have hlen := hJ.len
  have hl1 := Lib.hid hlen.1
  obtain ⟨_, hl2, hl3⟩ := hlen
  obtain ⟨W, hW, hbW, SW, R0, R1⟩ := jboxes w (.slice A 1 c) (.slice B m d)
  have hJ0 := (hJ.mono (S' := fun b => S b ∧ b < w.heap.size) (fun b hb h => ⟨h, hb⟩)).ext hbW
  have hwr := rlwrite_any A c B m d a b u K _ W (m : Int) hJ0
  rw [show wrN (m : Int) m = m by unfold wrN; omega, Nat.sub_self, List.take_of_length_le (by rw [hl1.out]; omega), List.drop_of_length_le (by rw [hl1.out]; omega)] at hwr
  have Hwr := Lib.hid hwr
  have q1 : W.cell? ⟨w.heap.size, 1, none⟩ = some (.slice B m d) := row_cell R0.out 1 _ rfl
  clear hwr
  go_enter Try.func77, Try.ntmps77
  go_upto_region 1 with fail
  rw [← hW]
  clear hW
  go_wp2_with (refine wpList_load_row rfl 70 _ rfl _ rfl 70 _ (0,0) _ R0.out Try.underlying70 rfl (by kernel_rfl) ?_)
  refine Hwr.out.mono ?_
  rintro e w2 ⟨A2, c2, B2, d2, rfl, hJ2, hb2⟩
  clear q1
  have sW := SW.out
  have s2 := hb2.size
  have b2 := Below.ext hbW hb2
  have K1 := Lib.hid ((hb2.block (w.heap.size + 1) (by omega)).trans R1.out)
  have K0 := Lib.hid ((hb2.block w.heap.size (by omega)).trans R0.out)
  have hz := hJ2.siz
  have hk := hJ2.kle
  have hJ2' := hJ2.mono (S' := fun b => (S b ∧ b < w.heap.size) ∨ w.heap.size + 2 ≤ b) (fun b _ h => by rcases h with h | h; exact Or.inl h; exact Or.inr (by omega))
  obtain ⟨W3, hW3⟩ : ∃ W3, W3 = w2.setRow w.heap.size #[.slice A2 1 c2, .slice B2 0 d2] := ⟨_, rfl⟩
  have b3 : Below w.heap.size w W3 := by rw [hW3]; exact Below.setRow b2 (Nat.le_refl _) _
  have g3 : w2.grownBy W3 (some w.heap.size) := by rw [hW3]; exact grown_setRow _ _ _
  have K3 := Lib.hid (show W3.heap[w.heap.size]? = some (.cells #[.slice A2 1 c2, .slice B2 0 d2] 70 (0, 0)) by rw [hW3]; exact setRow_heap _ _ _ _ _ _ K0.out)
  have K31 := Lib.hid ((g3.block (w.heap.size + 1) (by omega) (by simp)).trans K1.out)
  have hJ3 := hJ2'.keep (fun b hb h => g3.block b hb (by simp; rcases h with h | h <;> omega))
  have z3 : w2.heap.size ≤ W3.heap.size := g3.size
  go_upto_region 4 with (refine wpList_store_row rfl 70 _ _ rfl w.heap.size 70 _ _ rfl rfl K0.out (by kernel_rfl) rfl (by simp [Value.oneCell']) ?_)
  rw [← hW3]
  clear hW3
  have hsy := sync_ok A2 1 c2 [⟨frL a, frL (b ++ u)⟩] _ W3 hJ3.dsk (by omega) 0 _ rfl (by show (frL a).length + (frL (b ++ u)).length ≤ 10000000; omega)
  rw [show ((0 : Nat) : Int) = 0 from rfl] at hsy
  have Hsy := Lib.hid hsy
  clear hsy
  go_wp2_with (refine wpList_ldv (t := 45) (A := ⟨w.heap.size, 0, none⟩) rfl rfl rfl (ld_jd K3.out) ?_)
  refine Hsy.out.mono ?_
  rintro e w4 ⟨A4, c4, rfl, hD4, hb4⟩
  have s4 := hb4.size
  have s3 := b3.size
  have K4 := Lib.hid ((hb4.block w.heap.size (by omega)).trans K3.out)
  have K41 := Lib.hid ((hb4.block (w.heap.size + 1) (by omega)).trans K31.out)
  obtain ⟨W5, hW5, b5, k5, S5, r5⟩ := boxD w w4 #[.slice A4 1 c4] 45 (Below.ext b3 hb4)
  go_upto_region 7 with (refine wpList_store_new rfl 45 _ _ rfl 45 _ #[.slice A4 1 c4] rfl rfl (by kernel_rfl) rfl (by simp [Value.oneCell']) ?_)
  rw [← hW5]
  clear hW5
  have hD5 := (hD4.mono (S' := fun b => (S b ∧ b < w.heap.size) ∨ w.heap.size + 2 ≤ b) (fun b _ h => by rcases h with h | h; exact h; exact Or.inr (by omega))).ext k5
  have K5 := Lib.hid ((k5.block w.heap.size (by omega)).trans K4.out)
  have K51 := Lib.hid ((k5.block (w.heap.size + 1) (by omega)).trans K41.out)
  have e0 : frL a ++ frL (b ++ u) = frL (a ++ (b ++ u)) := (frL_append _ _).symm
  have q0 : W5.cell? ⟨w.heap.size, 0, none⟩ = some (.slice A2 1 c2) := row_cell K5.out 0 _ rfl
  have f0 : W5.frozen? ⟨w.heap.size, 0, none⟩ = false := frozen_of_row _ _ _ _ _ K5.out
  obtain ⟨W6, hW6⟩ : ∃ W6, W6 = W5.setCell ⟨w.heap.size, 0, none⟩ (.slice A4 1 c4) := ⟨_, rfl⟩
  have b6 : Below w.heap.size w W6 := by rw [hW6]; exact Below.setCell b5 (Nat.le_refl _) _
  have g6 : W5.grownBy W6 (some w.heap.size) := by rw [hW6]; exact grown_set (grown_refl _ _)
  have K6 := Lib.hid (show W6.heap[w.heap.size]? = some (.cells #[.slice A4 1 c4, .slice B2 0 d2] 70 (0, 0)) by rw [hW6]; exact heap_setCell_same _ _ _ _ _ _ K5.out)
  have z6 : W5.heap.size ≤ W6.heap.size := g6.size
  have s5 := k5.size
  have K61 := Lib.hid ((g6.block (w.heap.size + 1) (by omega) (by simp)).trans K51.out)
  have hD6 := hD5.keep (fun b hb h => g6.block b hb (by simp; rcases h with h | h <;> omega))
  go_upto_region 8 with (refine wpList_load_row rfl 45 _ rfl _ rfl 45 _ (0,0) _ r5.out Try.underlying45 rfl (by kernel_rfl) ?_)
  rw [← hW6]
  clear hW6 q0 f0
  go_wp2_with (first | (refine wpList_load_row rfl 70 _ rfl _ rfl 70 _ (0,0) _ K6.out Try.underlying70 rfl (by kernel_rfl) ?_) | (refine wpList_store_row rfl 70 _ _ rfl (w.heap.size + 1) 70 _ _ rfl rfl K61.out (by kernel_rfl) rfl (by simp [Value.oneCell']) ?_))
  refine bodyPost_ret (results_ct rfl rfl (run_ld_block (setRow_heap _ _ _ _ _ _ K61.out) Try.underlying70 rfl (by kernel_rfl))) rfl ?_
  have h0 : B2 = B2 := rfl
  refine ⟨A4, c4, B2, d2, rfl, ⟨?_, ?_, ?_, (by simp), (by simp), ?_, hk⟩, Below.setRow b6 (by omega) _⟩
  · rw [← e0]
    exact (hD6.keep (fun b hb h => setRow_other _ _ _ _ (by rcases h with h | h <;> omega))).mono (fun b _ h => by rcases h with h | h; exact Or.inl h.1; exact Or.inr (by omega))
  · obtain ⟨A', c', h1, h2, h3, h4⟩ := hJ2.buf
    cases h1
    exact ⟨_, _, rfl, by simp, h3, Cs.nil_ _ _ _⟩
  · intro x hx
    rcases List.mem_append.1 hx with h | h
    · exact hJ.ina x h
    · rcases List.mem_append.1 h with h | h
      · exact hJ.inb x h
      · exact hJ.inu x h
  · rw [← e0, List.length_append]
    simp [frL_nil]
    omega

set_option maxHeartbeats 4000000 in
theorem refflush_any (A : Option Addr) (c : Nat) (B : Option Addr) (m d : Nat) (a b u : List Dt) (K : Nat) (S : Nat → Prop) (w : World) (hJ : Jrn S w A c B m d a b u K) :
    Calls Try.prog 81 #[.agg #[.slice A 1 c, .slice B m d]] w fun e w' => ∃ A' c' B' d', e = .returned (.tuple #[.agg #[.slice A' 1 c', .slice B' 0 d'], .int .i64 0]) ∧ Jrn (fun b => S b ∨ w.heap.size ≤ b) w' A' c' B' 0 d' (a ++ (b ++ u)) [] [] K ∧ Below w.heap.size w w' := by
  have hlen := hJ.len
  have hl1 := Lib.hid hlen.1
  obtain ⟨_, hl2, hl3⟩ := hlen
  obtain ⟨W, hW, hbW, SW, R0, R1⟩ := jboxes w (.slice A 1 c) (.slice B m d)
  have hJ0 := (hJ.mono (S' := fun b => S b ∧ b < w.heap.size) (fun b hb h => ⟨h, hb⟩)).ext hbW
  have hwr := refwrite_any A c B m d a b u K _ W (m : Int) hJ0
  rw [show wrN (m : Int) m = m by unfold wrN; omega, Nat.sub_self, List.take_of_length_le (by rw [hl1.out]; omega), List.drop_of_length_le (by rw [hl1.out]; omega)] at hwr
  have Hwr := Lib.hid hwr
  have q1 : W.cell? ⟨w.heap.size, 1, none⟩ = some (.slice B m d) := row_cell R0.out 1 _ rfl
  clear hwr
  go_enter Try.func81, Try.ntmps81
  go_upto_region 1 with fail
  rw [← hW]
  clear hW
  go_wp2_with (refine wpList_load_row rfl 70 _ rfl _ rfl 70 _ (0,0) _ R0.out Try.underlying70 rfl (by kernel_rfl) ?_)
  refine Hwr.out.mono ?_
  rintro e w2 ⟨A2, c2, B2, d2, rfl, hJ2, hb2⟩
  clear q1
  have sW := SW.out
  have s2 := hb2.size
  have b2 := Below.ext hbW hb2
  have K1 := Lib.hid ((hb2.block (w.heap.size + 1) (by omega)).trans R1.out)
  have K0 := Lib.hid ((hb2.block w.heap.size (by omega)).trans R0.out)
  have hz := hJ2.siz
  have hk := hJ2.kle
  have hJ2' := hJ2.mono (S' := fun b => (S b ∧ b < w.heap.size) ∨ w.heap.size + 2 ≤ b) (fun b _ h => by rcases h with h | h; exact Or.inl h; exact Or.inr (by omega))
  obtain ⟨W3, hW3, b3, k3, S3, r3⟩ := boxD w w2 #[.slice A2 1 c2, .slice B2 0 d2] 70 b2
  obtain ⟨bj, hbj⟩ : ∃ bj, bj = w2.heap.size := ⟨_, rfl⟩
  have K3 := r3
  have K31 := Lib.hid ((k3.block (w.heap.size + 1) (by omega)).trans K1.out)
  have hJ3 := hJ2'.ext k3
  go_upto_region 4 with (refine wpList_store_new rfl 70 _ _ rfl 70 _ #[.slice A2 1 c2, .slice B2 0 d2] rfl rfl (by kernel_rfl) rfl (by simp [Value.oneCell']) ?_)
  rw [← hW3]
  clear hW3
  rw [← hbj] at K3 ⊢
  have z3 : bj < W3.heap.size := by have := S3.out; omega
  have z3' : w2.heap.size ≤ bj := by omega
  clear hbj
  have hsy := refsync_ok A2 1 c2 [⟨frL a, frL (b ++ u)⟩] _ W3 hJ3.dsk (by omega) 0 _ rfl (by show (frL a).length + (frL (b ++ u)).length ≤ 10000000; omega)
  rw [show ((0 : Nat) : Int) = 0 from rfl] at hsy
  have Hsy := Lib.hid hsy
  clear hsy
  go_wp2_with (refine wpList_ldv (t := 45) (A := ⟨bj, 0, none⟩) rfl rfl rfl (ld_jd K3.out) ?_)
  refine Hsy.out.mono ?_
  rintro e w4 ⟨A4, c4, rfl, hD4, hb4⟩
  have s4 := hb4.size
  have s3 := b3.size
  have K4 := Lib.hid ((hb4.block bj (by omega)).trans K3.out)
  have K41 := Lib.hid ((hb4.block (w.heap.size + 1) (by omega)).trans K31.out)
  obtain ⟨W5, hW5, b5, k5, S5, r5⟩ := boxD w w4 #[.slice A4 1 c4] 45 (Below.ext b3 hb4)
  go_upto_region 7 with (refine wpList_store_new rfl 45 _ _ rfl 45 _ #[.slice A4 1 c4] rfl rfl (by kernel_rfl) rfl (by simp [Value.oneCell']) ?_)
  rw [← hW5]
  clear hW5
  have hD5 := (hD4.mono (S' := fun b => (S b ∧ b < w.heap.size) ∨ w.heap.size + 2 ≤ b) (fun b _ h => by rcases h with h | h; exact h; exact Or.inr (by omega))).ext k5
  have K5 := Lib.hid ((k5.block bj (by omega)).trans K4.out)
  have K51 := Lib.hid ((k5.block (w.heap.size + 1) (by omega)).trans K41.out)
  have e0 : frL a ++ frL (b ++ u) = frL (a ++ (b ++ u)) := (frL_append _ _).symm
  have s5 := k5.size
  go_wp2_with (first | (refine wpList_load_row rfl 45 _ rfl _ rfl 45 _ (0,0) _ r5.out Try.underlying45 rfl (by kernel_rfl) ?_) | (refine wpList_store_row rfl 70 _ _ rfl (w.heap.size + 1) 70 _ _ rfl rfl K51.out (by kernel_rfl) rfl (by simp [Value.oneCell']) ?_))
  refine bodyPost_ret (results_ct rfl rfl (run_ld_block (setRow_heap _ _ _ _ _ _ K51.out) Try.underlying70 rfl (by kernel_rfl))) rfl ?_
  refine ⟨A4, c4, none, 0, rfl, ⟨?_, Recs.nil_ _ _, ?_, (by simp), (by simp), ?_, hk⟩, Below.setRow b5 (by omega) _⟩
  · rw [← e0]
    exact (hD5.keep (fun b hb h => setRow_other _ _ _ _ (by rcases h with h | h <;> omega))).mono (fun b _ h => by rcases h with h | h; exact Or.inl h.1; exact Or.inr (by omega))
  · intro x hx
    rcases List.mem_append.1 hx with h | h
    · exact hJ.ina x h
    · rcases List.mem_append.1 h with h | h
      · exact hJ.inb x h
      · exact hJ.inu x h
  · rw [← e0, List.length_append]
    simp [frL_nil]
    omega
end Go.Proofs.Ytjcfnpmgklliiaa
