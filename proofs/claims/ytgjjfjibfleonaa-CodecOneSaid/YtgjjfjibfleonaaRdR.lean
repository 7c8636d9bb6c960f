/-
  codec.read of events, determinants, states.
-/
import Derived.Test.YtgjjfjibfleonaaRdQ
namespace Go.Proofs.Ytgjjfjibfleonaa
open Go.RowKit
set_option maxRecDepth 100000
set_option linter.unusedVariables false

theorem leaves_ccc {P : Program} {fn : Func} {tmps : Array Value} {R : Ending → World → Prop} {u : FrameMode} {w : World} {v : Value} (hu : settle u = .returning) (hres : (results fn tmps).run P w = .ok v w) (h : R (.returned v) w) : Leaves P fn tmps R [] (settle u) w := by
  rw [hu]
  exact ⟨v, hres, h⟩
theorem results_ccc {P : Program} {fn : Func} {tmps : Array Value} {w : World} {a b c : Tmp} {t t' t2 : TypeId} {A A' A2 : Addr} {x y z : Value} (h : fn.results = #[.cell a t, .cell b t', .cell c t2]) (ha : tmps.getD a undef = .pointer (some A)) (hb : tmps.getD b undef = .pointer (some A')) (hc : tmps.getD c undef = .pointer (some A2)) (hl : (loadVar t A).run P w = .ok x w) (hl' : (loadVar t' A').run P w = .ok y w) (hl2 : (loadVar t2 A2).run P w = .ok z w) : (results fn tmps).run P w = .ok (.tuple #[x, y, z]) w := by
  have ha' : tmps[a]?.getD undef = .pointer (some A) := by simpa using ha
  have hb' : tmps[b]?.getD undef = .pointer (some A') := by simpa using hb
  have hc' : tmps[c]?.getD undef = .pointer (some A2) := by simpa using hc
  simp [results, h, asAddr, ha', hb', hc', hl, hl', hl2]
/-- the three results of a reading -/
def RdOut {α : Type} (x : Except Nat (α × Nat)) (z : Value) (V : α → World → Value → Prop) (e : Ending) (w' : World) : Prop :=
  match x with
  | .ok (a, q) => ∃ v, e = .returned (.tuple #[v, .int .i64 (q : Int), .int .i64 0]) ∧ V a w' v
  | .error k => e = .returned (.tuple #[z, .int .i64 0, .int .i64 (k : Int)])

theorem catchE_idle (p q s : Addr) (w : World) : CallsD Try.prog 58 #[.pointer (some p), .pointer (some q), .pointer (some s)] .returning w fun e u' w' => e = .returned (.tuple #[]) ∧ u' = .returning ∧ w' = w := by
  refine callsD_of_wpS Try.func58 rfl fun c₀ cs hu => ?_
  apply wpS_seq
  apply wpS_region
  generalize hQ : Exit.thenS _ _ = Q0
  simp [wpOpsS, go_sem, recoverD, hu, Try.ntmps58, Array.replicate]
  subst hQ
  refine wpS_of_wp ?_
  go_wp2
  cases c₀
  simp_all [bodyPostS, results, Try.results58]

set_option maxHeartbeats 1000000 in
theorem catchE_fail (k b6 b7 b8 : Nat) (x6 : Array Value) (x7 x8 : Int) (w w0 : World) (B : Nat) (h6 : w.heap[b6]? = some (.cells x6 35 (0, 0))) (hx6 : x6.size = 7) (h7 : w.heap[b7]? = some (.cells #[.int .i64 x7] 3 (0, 0))) (h8 : w.heap[b8]? = some (.cells #[.int .i64 x8] 26 (0, 0))) (hne : b6 ≠ b7 ∧ b6 ≠ b8 ∧ b7 ≠ b8) (hB : B ≤ b6 ∧ B ≤ b7 ∧ B ≤ b8) (hw : Below B w0 w) :
    CallsD Try.prog 58 #[.pointer (some ⟨b6, 0, none⟩), .pointer (some ⟨b7, 0, none⟩), .pointer (some ⟨b8, 0, none⟩)] (.panicking (failP k)) w fun e u' w' => e = .returned (.tuple #[]) ∧ u' = .panicking [{ v := failV k, recovered := true }] ∧ w'.heap[b6]? = some (.cells #[Value.int .i64 0, Value.int .i64 0, Value.int .i64 0, Value.int .i64 0, Value.int .i64 0, Value.int .i64 0, Value.int .i64 0] 35 (0, 0)) ∧ w'.cell? ⟨b7, 0, none⟩ = some (.int .i64 0) ∧ w'.cell? ⟨b8, 0, none⟩ = some (.int .i64 (k : Int)) ∧ Below B w0 w' := by
  have l6 := (Array.getElem?_eq_some_iff.1 h6).1
  have l7 := (Array.getElem?_eq_some_iff.1 h7).1
  have l8 := (Array.getElem?_eq_some_iff.1 h8).1
  obtain ⟨n1, n2, n3⟩ := hne
  have n1' := n1.symm
  have n2' := n2.symm
  have n3' := n3.symm
  have ha : Below w.heap.size w (w.alloc (.cells #[Value.int .i64 0, Value.int .i64 0, Value.int .i64 0, Value.int .i64 0, Value.int .i64 0, Value.int .i64 0, Value.int .i64 0] 35)) := (Below.refl _ _).alloc (Nat.le_refl _) _
  have a6 := (ha.block b6 l6).trans h6
  have A6 := Lib.hid a6
  have w6 : ((w.alloc (.cells #[Value.int .i64 0, Value.int .i64 0, Value.int .i64 0, Value.int .i64 0, Value.int .i64 0, Value.int .i64 0, Value.int .i64 0] 35)).setRow b6 #[Value.int .i64 0, Value.int .i64 0, Value.int .i64 0, Value.int .i64 0, Value.int .i64 0, Value.int .i64 0, Value.int .i64 0]).heap[b6]? = some (.cells #[Value.int .i64 0, Value.int .i64 0, Value.int .i64 0, Value.int .i64 0, Value.int .i64 0, Value.int .i64 0, Value.int .i64 0] 35 (0, 0)) := setRow_heap _ _ _ _ _ _ a6
  have w7 : ((w.alloc (.cells #[Value.int .i64 0, Value.int .i64 0, Value.int .i64 0, Value.int .i64 0, Value.int .i64 0, Value.int .i64 0, Value.int .i64 0] 35)).setRow b6 #[Value.int .i64 0, Value.int .i64 0, Value.int .i64 0, Value.int .i64 0, Value.int .i64 0, Value.int .i64 0, Value.int .i64 0]).heap[b7]? = some (.cells #[.int .i64 x7] 3 (0, 0)) := (setRow_other _ _ _ _ n1').trans ((ha.block b7 l7).trans h7)
  have w8 : ((w.alloc (.cells #[Value.int .i64 0, Value.int .i64 0, Value.int .i64 0, Value.int .i64 0, Value.int .i64 0, Value.int .i64 0, Value.int .i64 0] 35)).setRow b6 #[Value.int .i64 0, Value.int .i64 0, Value.int .i64 0, Value.int .i64 0, Value.int .i64 0, Value.int .i64 0, Value.int .i64 0]).heap[b8]? = some (.cells #[.int .i64 x8] 26 (0, 0)) := (setRow_other _ _ _ _ n2').trans ((ha.block b8 l8).trans h8)
  have hw2 : Below B w0 ((w.alloc (.cells #[Value.int .i64 0, Value.int .i64 0, Value.int .i64 0, Value.int .i64 0, Value.int .i64 0, Value.int .i64 0, Value.int .i64 0] 35)).setRow b6 #[Value.int .i64 0, Value.int .i64 0, Value.int .i64 0, Value.int .i64 0, Value.int .i64 0, Value.int .i64 0, Value.int .i64 0]) := Below.setRow (hw.alloc (by omega) _) hB.1 _
  have c7 : ((w.alloc (.cells #[Value.int .i64 0, Value.int .i64 0, Value.int .i64 0, Value.int .i64 0, Value.int .i64 0, Value.int .i64 0, Value.int .i64 0] 35)).setRow b6 #[Value.int .i64 0, Value.int .i64 0, Value.int .i64 0, Value.int .i64 0, Value.int .i64 0, Value.int .i64 0, Value.int .i64 0]).cell? ⟨b7, 0, none⟩ = some (.int .i64 x7) := by rw [cell_of_row _ _ _ _ _ _ w7]; rfl
  have c8 : ((w.alloc (.cells #[Value.int .i64 0, Value.int .i64 0, Value.int .i64 0, Value.int .i64 0, Value.int .i64 0, Value.int .i64 0, Value.int .i64 0] 35)).setRow b6 #[Value.int .i64 0, Value.int .i64 0, Value.int .i64 0, Value.int .i64 0, Value.int .i64 0, Value.int .i64 0, Value.int .i64 0]).cell? ⟨b8, 0, none⟩ = some (.int .i64 x8) := by rw [cell_of_row _ _ _ _ _ _ w8]; rfl
  have f7 := frozen_of_row _ _ 0 _ _ w7
  have f8 := frozen_of_row _ _ 0 _ _ w8
  have hsz : ((w.alloc (.cells #[Value.int .i64 0, Value.int .i64 0, Value.int .i64 0, Value.int .i64 0, Value.int .i64 0, Value.int .i64 0, Value.int .i64 0] 35)).setRow b6 #[Value.int .i64 0, Value.int .i64 0, Value.int .i64 0, Value.int .i64 0, Value.int .i64 0, Value.int .i64 0, Value.int .i64 0]).heap.size = w.heap.size + 1 := by rw [setRow_size]; simp
  have H6 := Lib.hid w6
  have H7 := Lib.hid w7
  have H8 := Lib.hid w8
  have HW := Lib.hid hw2
  clear h6 h7 h8 a6 w6 w7 w8 ha hw2
  unfold failP
  refine callsD_of_wpS Try.func58 rfl fun c₀ cs hu => ?_
  apply wpS_seq
  apply wpS_region
  generalize hQ : Exit.thenS _ _ = Q0
  simp [wpOpsS, go_sem, recoverD, hu, Try.ntmps58, Array.replicate]
  subst hQ
  refine wpS_of_wp ?_
  unfold failV
  have hta := run_assert (.agg #[.int .i64 (k : Int)])
  go_wp2_with (refine wpList_store_row rfl 35 _ _ rfl b6 35 _ _ rfl rfl A6.out (by kernel_rfl) (by rw [hx6]; rfl) (by simp [Value.oneCell']) ?_; generalize (w.alloc (.cells #[Value.int .i64 0, Value.int .i64 0, Value.int .i64 0, Value.int .i64 0, Value.int .i64 0, Value.int .i64 0, Value.int .i64 0] 35)).setRow b6 #[Value.int .i64 0, Value.int .i64 0, Value.int .i64 0, Value.int .i64 0, Value.int .i64 0, Value.int .i64 0, Value.int .i64 0] = W2 at *)
  refine ⟨rfl, _, rfl, _, results_none rfl _ _ _, rfl, rfl, ?_, ?_, ?_, ?_⟩
  · have r1 : (((W2.setCell ⟨b7, 0, none⟩ (.int .i64 0)).setCell ⟨b8, 0, none⟩ (.int .i64 9)).setCell ⟨b8, 0, none⟩ (.int .i64 (k : Int))).heap[b6]? = some (.cells #[Value.int .i64 0, Value.int .i64 0, Value.int .i64 0, Value.int .i64 0, Value.int .i64 0, Value.int .i64 0, Value.int .i64 0] 35 (0, 0)) := by
      rw [heap_setCell_other _ _ _ _ n2, heap_setCell_other _ _ _ _ n2, heap_setCell_other _ _ _ _ n1]
      exact H6.out
    exact (((Below.refl _ _).alloc (Nat.le_refl _) _).block b6 (Array.getElem?_eq_some_iff.1 r1).1).trans r1
  · go_simp
  · have r2 : ((W2.setCell ⟨b7, 0, none⟩ (.int .i64 0)).setCell ⟨b8, 0, none⟩ (.int .i64 9)).heap[b8]? = some (.cells #[.int .i64 9] 26 (0, 0)) := heap_setCell_same _ b8 0 _ _ _ ((heap_setCell_other _ ⟨b7, 0, none⟩ _ _ n3').trans H8.out)
    have r3 : (((W2.setCell ⟨b7, 0, none⟩ (.int .i64 0)).setCell ⟨b8, 0, none⟩ (.int .i64 9)).setCell ⟨b8, 0, none⟩ (.int .i64 (k : Int))).heap[b8]? = some (.cells #[.int .i64 (k : Int)] 26 (0, 0)) := heap_setCell_same _ b8 0 _ _ _ r2
    have r4 := cell_of_row _ _ 0 _ _ _ r3
    go_simp
  · exact Below.alloc (Below.setCell (p := ⟨b8, 0, none⟩) (Below.setCell (p := ⟨b8, 0, none⟩) (Below.setCell (p := ⟨b7, 0, none⟩) HW.out hB.2.1 _) hB.2.2 _) hB.2.2 _) (by simp; omega) _

set_option maxHeartbeats 2000000 in
theorem readE_any (A : Option Addr) (n c : Nat) (k : Int) (L : List UInt8) (S : Nat → Prop) (w : World) (hb : Bytes S w (.slice A n c) L) (hn : n ≤ 100000000) :
    Calls Try.prog 41 #[.slice A n c, .int .i64 k, .func (.func 42) #[] #[]] w fun e w' => RdOut (rdAt rdEv L k) (.agg #[Value.int .i64 0, Value.int .i64 0, Value.int .i64 0, Value.int .i64 0, Value.int .i64 0, Value.int .i64 0, Value.int .i64 0]) (fun a w' v => v = evV a) e w' ∧ Below w.heap.size w w' := by
  have hmf : ∀ (fn : Fn) (first cap : Array Value) (w : World), (Instr.makeFunc fn first cap).run Try.prog w = .ok (.func fn first cap) w := fun _ _ _ _ => rfl
  have hag : ∀ w : World, (isAgg 3).run Try.prog w = .ok false w := fun w => by simp [isAgg, run_underlying Try.underlying3]
  have hae : ∀ w : World, (isAgg 26).run Try.prog w = .ok false w := fun w => by simp [isAgg, run_underlying Try.underlying26]
  have hln := hb.len
  obtain ⟨W, hW, hbW, hsW, r6, r7, r8⟩ := boxes3 w (.cells #[Value.int .i64 0, Value.int .i64 0, Value.int .i64 0, Value.int .i64 0, Value.int .i64 0, Value.int .i64 0, Value.int .i64 0] 35) (.cells #[.int .i64 0] 3) (.cells #[.int .i64 0] 26)
  by_cases hk : k < 0 ∨ (L.length : Int) < k
  · have hcat := catchE_fail 3 w.heap.size (w.heap.size + 1) (w.heap.size + 1 + 1) _ _ _ W w w.heap.size r6 rfl r7 r8 ⟨by omega, by omega, by omega⟩ ⟨by omega, by omega, by omega⟩ hbW
    have Hcat := Lib.hid hcat
    clear hcat r6 r7 r8
    have hfin : rdAt rdEv L k = .error 3 := if_pos hk
    rw [hfin]
    by_cases h0 : k < 0
    · have d0 : decide (k < 0) = true := by simpa using h0
      go_enter_defers Try.func41, Try.ntmps41
      go_wp2
      rw [← hW]
      refine leaves_cons (f := 58) (args := #[.pointer (some ⟨w.heap.size, 0, none⟩), .pointer (some ⟨w.heap.size + 1, 0, none⟩), .pointer (some ⟨w.heap.size + 1 + 1, 0, none⟩)]) (by simp) (by simp [go_sem]) ?_
      refine Hcat.out.mono ?_
      rintro e u' w'' ⟨rfl, rfl, g6, g7, g8, hbb⟩
      refine leaves_ccc rfl (results_ccc rfl rfl rfl rfl (run_ld_block g6 Try.underlying35 rfl (by kernel_rfl)) (run_ld1 (hag _) g7) (run_ld1 (hae _) g8)) ?_
      exact ⟨rfl, hbb⟩
    · have d0 : decide (k < 0) = false := by simpa using h0
      have d1 : decide ((n : Int) < k) = true := by simp; omega
      go_enter_defers Try.func41, Try.ntmps41
      go_wp2
      rw [← hW]
      refine leaves_cons (f := 58) (args := #[.pointer (some ⟨w.heap.size, 0, none⟩), .pointer (some ⟨w.heap.size + 1, 0, none⟩), .pointer (some ⟨w.heap.size + 1 + 1, 0, none⟩)]) (by simp) (by simp [go_sem]) ?_
      refine Hcat.out.mono ?_
      rintro e u' w'' ⟨rfl, rfl, g6, g7, g8, hbb⟩
      refine leaves_ccc rfl (results_ccc rfl rfl rfl rfl (run_ld_block g6 Try.underlying35 rfl (by kernel_rfl)) (run_ld1 (hag _) g7) (run_ld1 (hae _) g8)) ?_
      exact ⟨rfl, hbb⟩
  · obtain ⟨p, rfl⟩ := Int.eq_ofNat_of_zero_le (show 0 ≤ k by omega)
    have hp : p ≤ n := by omega
    have hfin : rdAt rdEv L (p : Int) = rdEv L p := (if_neg hk).trans (by rw [Int.toNat_natCast])
    rw [hfin]
    clear hfin hk
    have d0 : decide ((p : Int) < 0) = false := by simp
    have d1 : decide ((n : Int) < (p : Int)) = false := by simp; omega
    have d2 : decide (n < p) = false := by simp; omega
    obtain ⟨W2, hW2⟩ : ∃ W2, W2 = W.alloc (.cells #[.slice A n c, .int .i64 (p : Int)] 93) := ⟨_, rfl⟩
    have hb2 : Below W.heap.size W W2 := by rw [hW2]; exact (Below.refl _ _).alloc (Nat.le_refl _) _
    have r9 : W2.heap[W.heap.size]? = some (.cells #[.slice A n c, .int .i64 (p : Int)] 93 (0, 0)) := by rw [hW2]; exact heap_alloc_new _ _
    have hRd : Rdr w.heap.size W2 W.heap.size L p := by
      have h1 := hln.1
      subst h1
      exact ⟨by omega, A, c, r9, (hb.mono (fun _ h _ => h)).ext (Below.ext hbW hb2), by omega, by omega⟩
    go_enter_defers Try.func41, Try.ntmps41
    go_wp2_with fail
    rw [← hW, ← hsW, ← hW2]
    refine (revent_any w.heap.size W.heap.size p L W2 hRd).mono ?_
    intro e w3 h3
    have s2 := hb2.size
    have hs3 : w.heap.size + 1 + 1 < W.heap.size := by omega
    clear hsW hW hW2
    have hlt9 : W.heap.size < W2.heap.size := hRd.lt
    unfold Reads at h3
    cases hx : rdEv L p with
    | error x =>
      rw [hx] at h3
      obtain ⟨rfl, hg3⟩ := h3
      have k6 := (hg3.block w.heap.size (by omega) (by simp; omega)).trans ((hb2.block _ (by omega)).trans r6)
      have k7 := (hg3.block (w.heap.size + 1) (by omega) (by simp; omega)).trans ((hb2.block _ (by omega)).trans r7)
      have k8 := (hg3.block (w.heap.size + 1 + 1) (by omega) (by simp; omega)).trans ((hb2.block _ (by omega)).trans r8)
      have hcat := catchE_fail x w.heap.size (w.heap.size + 1) (w.heap.size + 1 + 1) _ _ _ w3 w w.heap.size k6 rfl k7 k8 ⟨by omega, by omega, by omega⟩ ⟨by omega, by omega, by omega⟩ (Below.grow (Below.ext hbW hb2) hg3 (by omega))
      have Hcat := Lib.hid hcat
      clear hcat r6 r7 r8 k6 k7 k8 hRd r9
      go_wp2
      refine leaves_cons (f := 58) (args := #[.pointer (some ⟨w.heap.size, 0, none⟩), .pointer (some ⟨w.heap.size + 1, 0, none⟩), .pointer (some ⟨w.heap.size + 1 + 1, 0, none⟩)]) (by simp [failP]) (by simp [go_sem]) ?_
      refine Hcat.out.mono ?_
      rintro e u' w'' ⟨rfl, rfl, g6, g7, g8, hbb⟩
      refine leaves_ccc rfl (results_ccc rfl rfl rfl rfl (run_ld_block g6 Try.underlying35 rfl (by kernel_rfl)) (run_ld1 (hag _) g7) (run_ld1 (hae _) g8)) ?_
      rw [hx]
      exact ⟨rfl, hbb⟩
    | ok vq =>
      obtain ⟨v, q⟩ := vq
      rw [hx] at h3
      obtain ⟨⟨_, rfl, hV⟩, hR3, hg3⟩ := h3
      unfold evV at hV
      subst hV
      have k6 := (hg3.block w.heap.size (by omega) (by simp; omega)).trans ((hb2.block _ (by omega)).trans r6)
      have k7 := (hg3.block (w.heap.size + 1) (by omega) (by simp; omega)).trans ((hb2.block _ (by omega)).trans r7)
      have k8 := (hg3.block (w.heap.size + 1 + 1) (by omega) (by simp; omega)).trans ((hb2.block _ (by omega)).trans r8)
      have b3 := Below.grow (Below.ext hbW hb2) hg3 (by omega)
      have hs33 := hg3.size
      have k9 : ∃ A' c', w3.heap[W.heap.size]? = some (.cells #[.slice A' L.length c', .int .i64 (q : Int)] 93 (0, 0)) := by obtain ⟨_, A', c', h1, _⟩ := hR3; exact ⟨A', c', h1⟩
      obtain ⟨Ar, cr, k9⟩ := k9
      have K6 := Lib.hid k6
      have m6 : (w3.setRow w.heap.size #[Value.int .i64 v.k0, Value.int .i64 v.k1, Value.int .i64 v.k2, Value.int .i64 v.k3, Value.int .i64 v.k4, Value.int .i64 v.k5, Value.int .i64 v.k6]).heap[w.heap.size]? = some (.cells #[Value.int .i64 v.k0, Value.int .i64 v.k1, Value.int .i64 v.k2, Value.int .i64 v.k3, Value.int .i64 v.k4, Value.int .i64 v.k5, Value.int .i64 v.k6] 35 (0, 0)) := setRow_heap _ _ _ _ _ _ k6
      have m7 := (setRow_other w3 w.heap.size (w.heap.size + 1) #[Value.int .i64 v.k0, Value.int .i64 v.k1, Value.int .i64 v.k2, Value.int .i64 v.k3, Value.int .i64 v.k4, Value.int .i64 v.k5, Value.int .i64 v.k6] (by omega)).trans k7
      have m8 := (setRow_other w3 w.heap.size (w.heap.size + 1 + 1) #[Value.int .i64 v.k0, Value.int .i64 v.k1, Value.int .i64 v.k2, Value.int .i64 v.k3, Value.int .i64 v.k4, Value.int .i64 v.k5, Value.int .i64 v.k6] (by omega)).trans k8
      have m9 := (setRow_other w3 w.heap.size W.heap.size #[Value.int .i64 v.k0, Value.int .i64 v.k1, Value.int .i64 v.k2, Value.int .i64 v.k3, Value.int .i64 v.k4, Value.int .i64 v.k5, Value.int .i64 v.k6] (by omega)).trans k9
      have mb : Below w.heap.size w (w3.setRow w.heap.size #[Value.int .i64 v.k0, Value.int .i64 v.k1, Value.int .i64 v.k2, Value.int .i64 v.k3, Value.int .i64 v.k4, Value.int .i64 v.k5, Value.int .i64 v.k6]) := Below.setRow b3 (Nat.le_refl _) _
      have mg : w3.grownBy (w3.setRow w.heap.size #[Value.int .i64 v.k0, Value.int .i64 v.k1, Value.int .i64 v.k2, Value.int .i64 v.k3, Value.int .i64 v.k4, Value.int .i64 v.k5, Value.int .i64 v.k6]) (some w.heap.size) := grown_setRow _ _ _
      have ms : (w3.setRow w.heap.size #[Value.int .i64 v.k0, Value.int .i64 v.k1, Value.int .i64 v.k2, Value.int .i64 v.k3, Value.int .i64 v.k4, Value.int .i64 v.k5, Value.int .i64 v.k6]).heap.size = w3.heap.size := setRow_size _ _ _
      have M6 := Lib.hid m6
      have M7 := Lib.hid m7
      have M8 := Lib.hid m8
      have M9 := Lib.hid m9
      clear r6 r7 r8 k6 k7 k8 k9 hRd r9 m6 m7 m8 m9 b3 mg
      have n9 : W.heap.size ≠ w.heap.size := by omega
      go_wp2_with (refine wpList_store_row rfl 35 _ _ rfl w.heap.size 35 _ _ rfl rfl K6.out (by kernel_rfl) rfl (by simp [Value.oneCell']) ?_)
      generalize w3.setRow w.heap.size #[Value.int .i64 v.k0, Value.int .i64 v.k1, Value.int .i64 v.k2, Value.int .i64 v.k3, Value.int .i64 v.k4, Value.int .i64 v.k5, Value.int .i64 v.k6] = W4 at *
      have e9 : W4.cell? ⟨W.heap.size, 1, none⟩ = some (.int .i64 (q : Int)) := by rw [cell_of_row _ _ _ _ _ _ M9.out]; rfl
      have E9 := Lib.hid e9
      clear e9
      refine wp_region_lexL (fun w' => w'.heap[w.heap.size]? = some (.cells #[Value.int .i64 v.k0, Value.int .i64 v.k1, Value.int .i64 v.k2, Value.int .i64 v.k3, Value.int .i64 v.k4, Value.int .i64 v.k5, Value.int .i64 v.k6] 35 (0, 0)) ∧ w'.cell? ⟨W.heap.size, 1, none⟩ = some (.int .i64 (q : Int))) (by kernel_rfl) (by kernel_rfl) ⟨M6.out, E9.out⟩ ?_
      repeat (first | (refine lexL_q0 rfl ?_; go_big_quiet_step (fail); refine wpQuiet_nil ?_) | (refine lexL_skip0 rfl rfl ?_; simp only [Act.put, List.setIfInBounds_toArray, List.set_cons_succ, List.set_cons_zero]))
      refine lexL_ld (⟨w.heap.size, 0, none⟩) (.agg #[Value.int .i64 v.k0, Value.int .i64 v.k1, Value.int .i64 v.k2, Value.int .i64 v.k3, Value.int .i64 v.k4, Value.int .i64 v.k5, Value.int .i64 v.k6]) rfl rfl rfl (fun w' hw' => run_ld_block hw'.1 Try.underlying35 rfl (by kernel_rfl)) ?_
      simp only [Act.put, List.setIfInBounds_toArray, List.set_cons_succ, List.set_cons_zero]
      repeat (first | (refine lexL_q0 rfl ?_; go_big_quiet_step (fail); refine wpQuiet_nil ?_) | (refine lexL_skip0 rfl rfl ?_; simp only [Act.put, List.setIfInBounds_toArray, List.set_cons_succ, List.set_cons_zero]))
      refine lexL_ld (⟨W.heap.size, 1, none⟩) (.int .i64 (q : Int)) rfl rfl rfl (fun w' hw' => run_ld1 (hag _) hw'.2) ?_
      simp only [Act.put, List.setIfInBounds_toArray, List.set_cons_succ, List.set_cons_zero]
      repeat (first | (refine lexL_q0 rfl ?_; go_big_quiet_step (fail); refine wpQuiet_nil ?_) | (refine lexL_skip0 rfl rfl ?_; simp only [Act.put, List.setIfInBounds_toArray, List.set_cons_succ, List.set_cons_zero]))
      have D6 : RowKit.Hid (W4.drew.heap[w.heap.size]? = some (.cells #[Value.int .i64 v.k0, Value.int .i64 v.k1, Value.int .i64 v.k2, Value.int .i64 v.k3, Value.int .i64 v.k4, Value.int .i64 v.k5, Value.int .i64 v.k6] 35 (0, 0))) := Lib.hid M6.out
      refine lexL_e rfl ?_
      refine wpList_store_row rfl 35 _ _ rfl w.heap.size 35 _ _ rfl rfl D6.out (by kernel_rfl) rfl (by simp [Value.oneCell']) ?_
      have u6 : (W4.drew.setRow w.heap.size #[Value.int .i64 v.k0, Value.int .i64 v.k1, Value.int .i64 v.k2, Value.int .i64 v.k3, Value.int .i64 v.k4, Value.int .i64 v.k5, Value.int .i64 v.k6]).heap[w.heap.size]? = some (.cells #[Value.int .i64 v.k0, Value.int .i64 v.k1, Value.int .i64 v.k2, Value.int .i64 v.k3, Value.int .i64 v.k4, Value.int .i64 v.k5, Value.int .i64 v.k6] 35 (0, 0)) := setRow_heap _ _ _ _ _ _ D6.out
      have u7 := (setRow_other W4.drew w.heap.size (w.heap.size + 1) #[Value.int .i64 v.k0, Value.int .i64 v.k1, Value.int .i64 v.k2, Value.int .i64 v.k3, Value.int .i64 v.k4, Value.int .i64 v.k5, Value.int .i64 v.k6] (by omega)).trans M7.out
      have u8 := (setRow_other W4.drew w.heap.size (w.heap.size + 1 + 1) #[Value.int .i64 v.k0, Value.int .i64 v.k1, Value.int .i64 v.k2, Value.int .i64 v.k3, Value.int .i64 v.k4, Value.int .i64 v.k5, Value.int .i64 v.k6] (by omega)).trans M8.out
      have u9 := (setRow_other W4.drew w.heap.size W.heap.size #[Value.int .i64 v.k0, Value.int .i64 v.k1, Value.int .i64 v.k2, Value.int .i64 v.k3, Value.int .i64 v.k4, Value.int .i64 v.k5, Value.int .i64 v.k6] (by omega)).trans M9.out
      have ub : Below w.heap.size w (W4.drew.setRow w.heap.size #[Value.int .i64 v.k0, Value.int .i64 v.k1, Value.int .i64 v.k2, Value.int .i64 v.k3, Value.int .i64 v.k4, Value.int .i64 v.k5, Value.int .i64 v.k6]) := Below.setRow mb.drew (Nat.le_refl _) _
      have ug : W4.drew.grownBy (W4.drew.setRow w.heap.size #[Value.int .i64 v.k0, Value.int .i64 v.k1, Value.int .i64 v.k2, Value.int .i64 v.k3, Value.int .i64 v.k4, Value.int .i64 v.k5, Value.int .i64 v.k6]) (some w.heap.size) := grown_setRow _ _ _
      generalize W4.drew.setRow w.heap.size #[Value.int .i64 v.k0, Value.int .i64 v.k1, Value.int .i64 v.k2, Value.int .i64 v.k3, Value.int .i64 v.k4, Value.int .i64 v.k5, Value.int .i64 v.k6] = W5 at *
      have c9 : W5.cell? ⟨W.heap.size, 1, none⟩ = some (.int .i64 (q : Int)) := by rw [cell_of_row _ _ _ _ _ _ u9]; rfl
      have c7 : W5.cell? ⟨w.heap.size + 1, 0, none⟩ = some (.int .i64 0) := by rw [cell_of_row _ _ _ _ _ _ u7]; rfl
      have c8 : W5.cell? ⟨w.heap.size + 1 + 1, 0, none⟩ = some (.int .i64 0) := by rw [cell_of_row _ _ _ _ _ _ u8]; rfl
      have f7 := frozen_of_row _ _ 0 _ _ u7
      have f8 := frozen_of_row _ _ 0 _ _ u8
      have U6 := Lib.hid u6
      clear u6 u7 u8 u9 ug
      refine lexL_go ⟨U6.out, c9⟩ ?_
      simp only [Act.put]
      repeat (first | (refine lexL_q0 rfl ?_; go_big_quiet_step (fail); refine wpQuiet_nil ?_) | (refine lexL_skip0 rfl rfl ?_; simp only [Act.put, List.setIfInBounds_toArray, List.set_cons_succ, List.set_cons_zero]))
      refine lexL_e rfl ?_
      go_wp2_with fail
      go_wp2_with fail
      refine lexL_go (⟨(heap_setCell_other _ ⟨w.heap.size + 1, 0, none⟩ _ _ (show w.heap.size ≠ w.heap.size + 1 by omega)).trans U6.out, by go_simp⟩) ?_
      repeat (first | (refine lexL_q0 rfl ?_; go_big_quiet_step (fail); refine wpQuiet_nil ?_) | (refine lexL_skip0 rfl rfl ?_; simp only [Act.put, List.setIfInBounds_toArray, List.set_cons_succ, List.set_cons_zero]))
      refine lexL_e rfl ?_
      go_wp2_with fail
      go_wp2_with fail
      refine lexL_go (⟨(heap_setCell_other _ ⟨w.heap.size + 1 + 1, 0, none⟩ _ _ (show w.heap.size ≠ w.heap.size + 1 + 1 by omega)).trans ((heap_setCell_other _ ⟨w.heap.size + 1, 0, none⟩ _ _ (show w.heap.size ≠ w.heap.size + 1 by omega)).trans U6.out), by go_simp⟩) ?_
      repeat (first | (refine lexL_q0 rfl ?_; go_big_quiet_step (fail); refine wpQuiet_nil ?_) | (refine lexL_skip0 rfl rfl ?_; simp only [Act.put, List.setIfInBounds_toArray, List.set_cons_succ, List.set_cons_zero]))
      refine lexL_nil ?_
      go_wp2_with fail
      have g6 : ((W5.setCell ⟨w.heap.size + 1, 0, none⟩ (.int .i64 (q : Int))).setCell ⟨w.heap.size + 1 + 1, 0, none⟩ (.int .i64 0)).heap[w.heap.size]? = some (.cells #[Value.int .i64 v.k0, Value.int .i64 v.k1, Value.int .i64 v.k2, Value.int .i64 v.k3, Value.int .i64 v.k4, Value.int .i64 v.k5, Value.int .i64 v.k6] 35 (0, 0)) := (heap_setCell_other _ ⟨w.heap.size + 1 + 1, 0, none⟩ _ _ (show w.heap.size ≠ w.heap.size + 1 + 1 by omega)).trans ((heap_setCell_other _ ⟨w.heap.size + 1, 0, none⟩ _ _ (show w.heap.size ≠ w.heap.size + 1 by omega)).trans U6.out)
      have g7 : ((W5.setCell ⟨w.heap.size + 1, 0, none⟩ (.int .i64 (q : Int))).setCell ⟨w.heap.size + 1 + 1, 0, none⟩ (.int .i64 0)).cell? ⟨w.heap.size + 1, 0, none⟩ = some (.int .i64 (q : Int)) := by go_simp
      have g8 : ((W5.setCell ⟨w.heap.size + 1, 0, none⟩ (.int .i64 (q : Int))).setCell ⟨w.heap.size + 1 + 1, 0, none⟩ (.int .i64 0)).cell? ⟨w.heap.size + 1 + 1, 0, none⟩ = some (.int .i64 0) := by go_simp
      have b7 := (ub.setCell (p := ⟨w.heap.size + 1, 0, none⟩) (show _ ≤ w.heap.size + 1 by omega) (.int .i64 (q : Int))).setCell (p := ⟨w.heap.size + 1 + 1, 0, none⟩) (show _ ≤ w.heap.size + 1 + 1 by omega) (.int .i64 0)
      have vg1 : W5.grownBy (W5.setCell ⟨w.heap.size + 1, 0, none⟩ (.int .i64 (q : Int))) (some (w.heap.size + 1)) := grown_set ⟨rfl, rfl, rfl, Nat.le_refl _, fun _ _ _ => rfl⟩
      have vg2 : (W5.setCell ⟨w.heap.size + 1, 0, none⟩ (.int .i64 (q : Int))).grownBy ((W5.setCell ⟨w.heap.size + 1, 0, none⟩ (.int .i64 (q : Int))).setCell ⟨w.heap.size + 1 + 1, 0, none⟩ (.int .i64 0)) (some (w.heap.size + 1 + 1)) := grown_set ⟨rfl, rfl, rfl, Nat.le_refl _, fun _ _ _ => rfl⟩
      generalize ((W5.setCell ⟨w.heap.size + 1, 0, none⟩ (.int .i64 (q : Int))).setCell ⟨w.heap.size + 1 + 1, 0, none⟩ (.int .i64 0)) = W7 at *
      refine leaves_cons (f := 58) (args := #[.pointer (some ⟨w.heap.size, 0, none⟩), .pointer (some ⟨w.heap.size + 1, 0, none⟩), .pointer (some ⟨w.heap.size + 1 + 1, 0, none⟩)]) (by simp) (by simp [go_sem]) ?_
      refine (catchE_idle _ _ _ W7).mono ?_
      rintro e u' w'' ⟨rfl, rfl, rfl⟩
      refine leaves_ccc rfl (results_ccc rfl rfl rfl rfl (run_ld_block g6 Try.underlying35 rfl (by kernel_rfl)) (run_ld1 (hag _) g7) (run_ld1 (hae _) g8)) ?_
      refine ⟨?_, b7⟩
      rw [hx]
      exact ⟨_, rfl, rfl⟩

theorem catchD_idle (p q s : Addr) (w : World) : CallsD Try.prog 69 #[.pointer (some p), .pointer (some q), .pointer (some s)] .returning w fun e u' w' => e = .returned (.tuple #[]) ∧ u' = .returning ∧ w' = w := by
  refine callsD_of_wpS Try.func69 rfl fun c₀ cs hu => ?_
  apply wpS_seq
  apply wpS_region
  generalize hQ : Exit.thenS _ _ = Q0
  simp [wpOpsS, go_sem, recoverD, hu, Try.ntmps69, Array.replicate]
  subst hQ
  refine wpS_of_wp ?_
  go_wp2
  cases c₀
  simp_all [bodyPostS, results, Try.results69]

set_option maxHeartbeats 1000000 in
theorem catchD_fail (k b6 b7 b8 : Nat) (x6 : Array Value) (x7 x8 : Int) (w w0 : World) (B : Nat) (h6 : w.heap[b6]? = some (.cells x6 37 (0, 0))) (hx6 : x6.size = 9) (h7 : w.heap[b7]? = some (.cells #[.int .i64 x7] 3 (0, 0))) (h8 : w.heap[b8]? = some (.cells #[.int .i64 x8] 26 (0, 0))) (hne : b6 ≠ b7 ∧ b6 ≠ b8 ∧ b7 ≠ b8) (hB : B ≤ b6 ∧ B ≤ b7 ∧ B ≤ b8) (hw : Below B w0 w) :
    CallsD Try.prog 69 #[.pointer (some ⟨b6, 0, none⟩), .pointer (some ⟨b7, 0, none⟩), .pointer (some ⟨b8, 0, none⟩)] (.panicking (failP k)) w fun e u' w' => e = .returned (.tuple #[]) ∧ u' = .panicking [{ v := failV k, recovered := true }] ∧ w'.heap[b6]? = some (.cells #[Value.int .i64 0, Value.int .i64 0, Value.int .i64 0, Value.int .i64 0, Value.int .i64 0, Value.int .i64 0, Value.int .i64 0, Value.int .i64 0, Value.int .i64 0] 37 (0, 0)) ∧ w'.cell? ⟨b7, 0, none⟩ = some (.int .i64 0) ∧ w'.cell? ⟨b8, 0, none⟩ = some (.int .i64 (k : Int)) ∧ Below B w0 w' := by
  have l6 := (Array.getElem?_eq_some_iff.1 h6).1
  have l7 := (Array.getElem?_eq_some_iff.1 h7).1
  have l8 := (Array.getElem?_eq_some_iff.1 h8).1
  obtain ⟨n1, n2, n3⟩ := hne
  have n1' := n1.symm
  have n2' := n2.symm
  have n3' := n3.symm
  have ha : Below w.heap.size w (w.alloc (.cells #[Value.int .i64 0, Value.int .i64 0, Value.int .i64 0, Value.int .i64 0, Value.int .i64 0, Value.int .i64 0, Value.int .i64 0, Value.int .i64 0, Value.int .i64 0] 37)) := (Below.refl _ _).alloc (Nat.le_refl _) _
  have a6 := (ha.block b6 l6).trans h6
  have A6 := Lib.hid a6
  have w6 : ((w.alloc (.cells #[Value.int .i64 0, Value.int .i64 0, Value.int .i64 0, Value.int .i64 0, Value.int .i64 0, Value.int .i64 0, Value.int .i64 0, Value.int .i64 0, Value.int .i64 0] 37)).setRow b6 #[Value.int .i64 0, Value.int .i64 0, Value.int .i64 0, Value.int .i64 0, Value.int .i64 0, Value.int .i64 0, Value.int .i64 0, Value.int .i64 0, Value.int .i64 0]).heap[b6]? = some (.cells #[Value.int .i64 0, Value.int .i64 0, Value.int .i64 0, Value.int .i64 0, Value.int .i64 0, Value.int .i64 0, Value.int .i64 0, Value.int .i64 0, Value.int .i64 0] 37 (0, 0)) := setRow_heap _ _ _ _ _ _ a6
  have w7 : ((w.alloc (.cells #[Value.int .i64 0, Value.int .i64 0, Value.int .i64 0, Value.int .i64 0, Value.int .i64 0, Value.int .i64 0, Value.int .i64 0, Value.int .i64 0, Value.int .i64 0] 37)).setRow b6 #[Value.int .i64 0, Value.int .i64 0, Value.int .i64 0, Value.int .i64 0, Value.int .i64 0, Value.int .i64 0, Value.int .i64 0, Value.int .i64 0, Value.int .i64 0]).heap[b7]? = some (.cells #[.int .i64 x7] 3 (0, 0)) := (setRow_other _ _ _ _ n1').trans ((ha.block b7 l7).trans h7)
  have w8 : ((w.alloc (.cells #[Value.int .i64 0, Value.int .i64 0, Value.int .i64 0, Value.int .i64 0, Value.int .i64 0, Value.int .i64 0, Value.int .i64 0, Value.int .i64 0, Value.int .i64 0] 37)).setRow b6 #[Value.int .i64 0, Value.int .i64 0, Value.int .i64 0, Value.int .i64 0, Value.int .i64 0, Value.int .i64 0, Value.int .i64 0, Value.int .i64 0, Value.int .i64 0]).heap[b8]? = some (.cells #[.int .i64 x8] 26 (0, 0)) := (setRow_other _ _ _ _ n2').trans ((ha.block b8 l8).trans h8)
  have hw2 : Below B w0 ((w.alloc (.cells #[Value.int .i64 0, Value.int .i64 0, Value.int .i64 0, Value.int .i64 0, Value.int .i64 0, Value.int .i64 0, Value.int .i64 0, Value.int .i64 0, Value.int .i64 0] 37)).setRow b6 #[Value.int .i64 0, Value.int .i64 0, Value.int .i64 0, Value.int .i64 0, Value.int .i64 0, Value.int .i64 0, Value.int .i64 0, Value.int .i64 0, Value.int .i64 0]) := Below.setRow (hw.alloc (by omega) _) hB.1 _
  have c7 : ((w.alloc (.cells #[Value.int .i64 0, Value.int .i64 0, Value.int .i64 0, Value.int .i64 0, Value.int .i64 0, Value.int .i64 0, Value.int .i64 0, Value.int .i64 0, Value.int .i64 0] 37)).setRow b6 #[Value.int .i64 0, Value.int .i64 0, Value.int .i64 0, Value.int .i64 0, Value.int .i64 0, Value.int .i64 0, Value.int .i64 0, Value.int .i64 0, Value.int .i64 0]).cell? ⟨b7, 0, none⟩ = some (.int .i64 x7) := by rw [cell_of_row _ _ _ _ _ _ w7]; rfl
  have c8 : ((w.alloc (.cells #[Value.int .i64 0, Value.int .i64 0, Value.int .i64 0, Value.int .i64 0, Value.int .i64 0, Value.int .i64 0, Value.int .i64 0, Value.int .i64 0, Value.int .i64 0] 37)).setRow b6 #[Value.int .i64 0, Value.int .i64 0, Value.int .i64 0, Value.int .i64 0, Value.int .i64 0, Value.int .i64 0, Value.int .i64 0, Value.int .i64 0, Value.int .i64 0]).cell? ⟨b8, 0, none⟩ = some (.int .i64 x8) := by rw [cell_of_row _ _ _ _ _ _ w8]; rfl
  have f7 := frozen_of_row _ _ 0 _ _ w7
  have f8 := frozen_of_row _ _ 0 _ _ w8
  have hsz : ((w.alloc (.cells #[Value.int .i64 0, Value.int .i64 0, Value.int .i64 0, Value.int .i64 0, Value.int .i64 0, Value.int .i64 0, Value.int .i64 0, Value.int .i64 0, Value.int .i64 0] 37)).setRow b6 #[Value.int .i64 0, Value.int .i64 0, Value.int .i64 0, Value.int .i64 0, Value.int .i64 0, Value.int .i64 0, Value.int .i64 0, Value.int .i64 0, Value.int .i64 0]).heap.size = w.heap.size + 1 := by rw [setRow_size]; simp
  have H6 := Lib.hid w6
  have H7 := Lib.hid w7
  have H8 := Lib.hid w8
  have HW := Lib.hid hw2
  clear h6 h7 h8 a6 w6 w7 w8 ha hw2
  unfold failP
  refine callsD_of_wpS Try.func69 rfl fun c₀ cs hu => ?_
  apply wpS_seq
  apply wpS_region
  generalize hQ : Exit.thenS _ _ = Q0
  simp [wpOpsS, go_sem, recoverD, hu, Try.ntmps69, Array.replicate]
  subst hQ
  refine wpS_of_wp ?_
  unfold failV
  have hta := run_assert (.agg #[.int .i64 (k : Int)])
  go_wp2_with (refine wpList_store_row rfl 37 _ _ rfl b6 37 _ _ rfl rfl A6.out (by kernel_rfl) (by rw [hx6]; rfl) (by simp [Value.oneCell']) ?_; generalize (w.alloc (.cells #[Value.int .i64 0, Value.int .i64 0, Value.int .i64 0, Value.int .i64 0, Value.int .i64 0, Value.int .i64 0, Value.int .i64 0, Value.int .i64 0, Value.int .i64 0] 37)).setRow b6 #[Value.int .i64 0, Value.int .i64 0, Value.int .i64 0, Value.int .i64 0, Value.int .i64 0, Value.int .i64 0, Value.int .i64 0, Value.int .i64 0, Value.int .i64 0] = W2 at *)
  refine ⟨rfl, _, rfl, _, results_none rfl _ _ _, rfl, rfl, ?_, ?_, ?_, ?_⟩
  · have r1 : (((W2.setCell ⟨b7, 0, none⟩ (.int .i64 0)).setCell ⟨b8, 0, none⟩ (.int .i64 9)).setCell ⟨b8, 0, none⟩ (.int .i64 (k : Int))).heap[b6]? = some (.cells #[Value.int .i64 0, Value.int .i64 0, Value.int .i64 0, Value.int .i64 0, Value.int .i64 0, Value.int .i64 0, Value.int .i64 0, Value.int .i64 0, Value.int .i64 0] 37 (0, 0)) := by
      rw [heap_setCell_other _ _ _ _ n2, heap_setCell_other _ _ _ _ n2, heap_setCell_other _ _ _ _ n1]
      exact H6.out
    exact (((Below.refl _ _).alloc (Nat.le_refl _) _).block b6 (Array.getElem?_eq_some_iff.1 r1).1).trans r1
  · go_simp
  · have r2 : ((W2.setCell ⟨b7, 0, none⟩ (.int .i64 0)).setCell ⟨b8, 0, none⟩ (.int .i64 9)).heap[b8]? = some (.cells #[.int .i64 9] 26 (0, 0)) := heap_setCell_same _ b8 0 _ _ _ ((heap_setCell_other _ ⟨b7, 0, none⟩ _ _ n3').trans H8.out)
    have r3 : (((W2.setCell ⟨b7, 0, none⟩ (.int .i64 0)).setCell ⟨b8, 0, none⟩ (.int .i64 9)).setCell ⟨b8, 0, none⟩ (.int .i64 (k : Int))).heap[b8]? = some (.cells #[.int .i64 (k : Int)] 26 (0, 0)) := heap_setCell_same _ b8 0 _ _ _ r2
    have r4 := cell_of_row _ _ 0 _ _ _ r3
    go_simp
  · exact Below.alloc (Below.setCell (p := ⟨b8, 0, none⟩) (Below.setCell (p := ⟨b8, 0, none⟩) (Below.setCell (p := ⟨b7, 0, none⟩) HW.out hB.2.1 _) hB.2.2 _) hB.2.2 _) (by simp; omega) _

set_option maxHeartbeats 2000000 in
theorem readD_any (A : Option Addr) (n c : Nat) (k : Int) (L : List UInt8) (S : Nat → Prop) (w : World) (hb : Bytes S w (.slice A n c) L) (hn : n ≤ 100000000) :
    Calls Try.prog 50 #[.slice A n c, .int .i64 k, .func (.func 51) #[] #[]] w fun e w' => RdOut (rdAt rdDt L k) (.agg #[Value.int .i64 0, Value.int .i64 0, Value.int .i64 0, Value.int .i64 0, Value.int .i64 0, Value.int .i64 0, Value.int .i64 0, Value.int .i64 0, Value.int .i64 0]) (fun a w' v => v = dtV a) e w' ∧ Below w.heap.size w w' := by
  have hmf : ∀ (fn : Fn) (first cap : Array Value) (w : World), (Instr.makeFunc fn first cap).run Try.prog w = .ok (.func fn first cap) w := fun _ _ _ _ => rfl
  have hag : ∀ w : World, (isAgg 3).run Try.prog w = .ok false w := fun w => by simp [isAgg, run_underlying Try.underlying3]
  have hae : ∀ w : World, (isAgg 26).run Try.prog w = .ok false w := fun w => by simp [isAgg, run_underlying Try.underlying26]
  have hln := hb.len
  obtain ⟨W, hW, hbW, hsW, r6, r7, r8⟩ := boxes3 w (.cells #[Value.int .i64 0, Value.int .i64 0, Value.int .i64 0, Value.int .i64 0, Value.int .i64 0, Value.int .i64 0, Value.int .i64 0, Value.int .i64 0, Value.int .i64 0] 37) (.cells #[.int .i64 0] 3) (.cells #[.int .i64 0] 26)
  by_cases hk : k < 0 ∨ (L.length : Int) < k
  · have hcat := catchD_fail 3 w.heap.size (w.heap.size + 1) (w.heap.size + 1 + 1) _ _ _ W w w.heap.size r6 rfl r7 r8 ⟨by omega, by omega, by omega⟩ ⟨by omega, by omega, by omega⟩ hbW
    have Hcat := Lib.hid hcat
    clear hcat r6 r7 r8
    have hfin : rdAt rdDt L k = .error 3 := if_pos hk
    rw [hfin]
    by_cases h0 : k < 0
    · have d0 : decide (k < 0) = true := by simpa using h0
      go_enter_defers Try.func50, Try.ntmps50
      go_wp2
      rw [← hW]
      refine leaves_cons (f := 69) (args := #[.pointer (some ⟨w.heap.size, 0, none⟩), .pointer (some ⟨w.heap.size + 1, 0, none⟩), .pointer (some ⟨w.heap.size + 1 + 1, 0, none⟩)]) (by simp) (by simp [go_sem]) ?_
      refine Hcat.out.mono ?_
      rintro e u' w'' ⟨rfl, rfl, g6, g7, g8, hbb⟩
      refine leaves_ccc rfl (results_ccc rfl rfl rfl rfl (run_ld_block g6 Try.underlying37 rfl (by kernel_rfl)) (run_ld1 (hag _) g7) (run_ld1 (hae _) g8)) ?_
      exact ⟨rfl, hbb⟩
    · have d0 : decide (k < 0) = false := by simpa using h0
      have d1 : decide ((n : Int) < k) = true := by simp; omega
      go_enter_defers Try.func50, Try.ntmps50
      go_wp2
      rw [← hW]
      refine leaves_cons (f := 69) (args := #[.pointer (some ⟨w.heap.size, 0, none⟩), .pointer (some ⟨w.heap.size + 1, 0, none⟩), .pointer (some ⟨w.heap.size + 1 + 1, 0, none⟩)]) (by simp) (by simp [go_sem]) ?_
      refine Hcat.out.mono ?_
      rintro e u' w'' ⟨rfl, rfl, g6, g7, g8, hbb⟩
      refine leaves_ccc rfl (results_ccc rfl rfl rfl rfl (run_ld_block g6 Try.underlying37 rfl (by kernel_rfl)) (run_ld1 (hag _) g7) (run_ld1 (hae _) g8)) ?_
      exact ⟨rfl, hbb⟩
  · obtain ⟨p, rfl⟩ := Int.eq_ofNat_of_zero_le (show 0 ≤ k by omega)
    have hp : p ≤ n := by omega
    have hfin : rdAt rdDt L (p : Int) = rdDt L p := (if_neg hk).trans (by rw [Int.toNat_natCast])
    rw [hfin]
    clear hfin hk
    have d0 : decide ((p : Int) < 0) = false := by simp
    have d1 : decide ((n : Int) < (p : Int)) = false := by simp; omega
    have d2 : decide (n < p) = false := by simp; omega
    obtain ⟨W2, hW2⟩ : ∃ W2, W2 = W.alloc (.cells #[.slice A n c, .int .i64 (p : Int)] 93) := ⟨_, rfl⟩
    have hb2 : Below W.heap.size W W2 := by rw [hW2]; exact (Below.refl _ _).alloc (Nat.le_refl _) _
    have r9 : W2.heap[W.heap.size]? = some (.cells #[.slice A n c, .int .i64 (p : Int)] 93 (0, 0)) := by rw [hW2]; exact heap_alloc_new _ _
    have hRd : Rdr w.heap.size W2 W.heap.size L p := by
      have h1 := hln.1
      subst h1
      exact ⟨by omega, A, c, r9, (hb.mono (fun _ h _ => h)).ext (Below.ext hbW hb2), by omega, by omega⟩
    go_enter_defers Try.func50, Try.ntmps50
    go_wp2_with fail
    rw [← hW, ← hsW, ← hW2]
    refine (rdet_any w.heap.size W.heap.size p L W2 hRd).mono ?_
    intro e w3 h3
    have s2 := hb2.size
    have hs3 : w.heap.size + 1 + 1 < W.heap.size := by omega
    clear hsW hW hW2
    have hlt9 : W.heap.size < W2.heap.size := hRd.lt
    unfold Reads at h3
    cases hx : rdDt L p with
    | error x =>
      rw [hx] at h3
      obtain ⟨rfl, hg3⟩ := h3
      have k6 := (hg3.block w.heap.size (by omega) (by simp; omega)).trans ((hb2.block _ (by omega)).trans r6)
      have k7 := (hg3.block (w.heap.size + 1) (by omega) (by simp; omega)).trans ((hb2.block _ (by omega)).trans r7)
      have k8 := (hg3.block (w.heap.size + 1 + 1) (by omega) (by simp; omega)).trans ((hb2.block _ (by omega)).trans r8)
      have hcat := catchD_fail x w.heap.size (w.heap.size + 1) (w.heap.size + 1 + 1) _ _ _ w3 w w.heap.size k6 rfl k7 k8 ⟨by omega, by omega, by omega⟩ ⟨by omega, by omega, by omega⟩ (Below.grow (Below.ext hbW hb2) hg3 (by omega))
      have Hcat := Lib.hid hcat
      clear hcat r6 r7 r8 k6 k7 k8 hRd r9
      go_wp2
      refine leaves_cons (f := 69) (args := #[.pointer (some ⟨w.heap.size, 0, none⟩), .pointer (some ⟨w.heap.size + 1, 0, none⟩), .pointer (some ⟨w.heap.size + 1 + 1, 0, none⟩)]) (by simp [failP]) (by simp [go_sem]) ?_
      refine Hcat.out.mono ?_
      rintro e u' w'' ⟨rfl, rfl, g6, g7, g8, hbb⟩
      refine leaves_ccc rfl (results_ccc rfl rfl rfl rfl (run_ld_block g6 Try.underlying37 rfl (by kernel_rfl)) (run_ld1 (hag _) g7) (run_ld1 (hae _) g8)) ?_
      rw [hx]
      exact ⟨rfl, hbb⟩
    | ok vq =>
      obtain ⟨v, q⟩ := vq
      rw [hx] at h3
      obtain ⟨⟨_, rfl, hV⟩, hR3, hg3⟩ := h3
      unfold dtV at hV
      subst hV
      have k6 := (hg3.block w.heap.size (by omega) (by simp; omega)).trans ((hb2.block _ (by omega)).trans r6)
      have k7 := (hg3.block (w.heap.size + 1) (by omega) (by simp; omega)).trans ((hb2.block _ (by omega)).trans r7)
      have k8 := (hg3.block (w.heap.size + 1 + 1) (by omega) (by simp; omega)).trans ((hb2.block _ (by omega)).trans r8)
      have b3 := Below.grow (Below.ext hbW hb2) hg3 (by omega)
      have hs33 := hg3.size
      have k9 : ∃ A' c', w3.heap[W.heap.size]? = some (.cells #[.slice A' L.length c', .int .i64 (q : Int)] 93 (0, 0)) := by obtain ⟨_, A', c', h1, _⟩ := hR3; exact ⟨A', c', h1⟩
      obtain ⟨Ar, cr, k9⟩ := k9
      have K6 := Lib.hid k6
      have m6 : (w3.setRow w.heap.size #[Value.int .i64 v.proc, Value.int .i64 v.index, Value.int .i64 v.ev.k0, Value.int .i64 v.ev.k1, Value.int .i64 v.ev.k2, Value.int .i64 v.ev.k3, Value.int .i64 v.ev.k4, Value.int .i64 v.ev.k5, Value.int .i64 v.ev.k6]).heap[w.heap.size]? = some (.cells #[Value.int .i64 v.proc, Value.int .i64 v.index, Value.int .i64 v.ev.k0, Value.int .i64 v.ev.k1, Value.int .i64 v.ev.k2, Value.int .i64 v.ev.k3, Value.int .i64 v.ev.k4, Value.int .i64 v.ev.k5, Value.int .i64 v.ev.k6] 37 (0, 0)) := setRow_heap _ _ _ _ _ _ k6
      have m7 := (setRow_other w3 w.heap.size (w.heap.size + 1) #[Value.int .i64 v.proc, Value.int .i64 v.index, Value.int .i64 v.ev.k0, Value.int .i64 v.ev.k1, Value.int .i64 v.ev.k2, Value.int .i64 v.ev.k3, Value.int .i64 v.ev.k4, Value.int .i64 v.ev.k5, Value.int .i64 v.ev.k6] (by omega)).trans k7
      have m8 := (setRow_other w3 w.heap.size (w.heap.size + 1 + 1) #[Value.int .i64 v.proc, Value.int .i64 v.index, Value.int .i64 v.ev.k0, Value.int .i64 v.ev.k1, Value.int .i64 v.ev.k2, Value.int .i64 v.ev.k3, Value.int .i64 v.ev.k4, Value.int .i64 v.ev.k5, Value.int .i64 v.ev.k6] (by omega)).trans k8
      have m9 := (setRow_other w3 w.heap.size W.heap.size #[Value.int .i64 v.proc, Value.int .i64 v.index, Value.int .i64 v.ev.k0, Value.int .i64 v.ev.k1, Value.int .i64 v.ev.k2, Value.int .i64 v.ev.k3, Value.int .i64 v.ev.k4, Value.int .i64 v.ev.k5, Value.int .i64 v.ev.k6] (by omega)).trans k9
      have mb : Below w.heap.size w (w3.setRow w.heap.size #[Value.int .i64 v.proc, Value.int .i64 v.index, Value.int .i64 v.ev.k0, Value.int .i64 v.ev.k1, Value.int .i64 v.ev.k2, Value.int .i64 v.ev.k3, Value.int .i64 v.ev.k4, Value.int .i64 v.ev.k5, Value.int .i64 v.ev.k6]) := Below.setRow b3 (Nat.le_refl _) _
      have mg : w3.grownBy (w3.setRow w.heap.size #[Value.int .i64 v.proc, Value.int .i64 v.index, Value.int .i64 v.ev.k0, Value.int .i64 v.ev.k1, Value.int .i64 v.ev.k2, Value.int .i64 v.ev.k3, Value.int .i64 v.ev.k4, Value.int .i64 v.ev.k5, Value.int .i64 v.ev.k6]) (some w.heap.size) := grown_setRow _ _ _
      have ms : (w3.setRow w.heap.size #[Value.int .i64 v.proc, Value.int .i64 v.index, Value.int .i64 v.ev.k0, Value.int .i64 v.ev.k1, Value.int .i64 v.ev.k2, Value.int .i64 v.ev.k3, Value.int .i64 v.ev.k4, Value.int .i64 v.ev.k5, Value.int .i64 v.ev.k6]).heap.size = w3.heap.size := setRow_size _ _ _
      have M6 := Lib.hid m6
      have M7 := Lib.hid m7
      have M8 := Lib.hid m8
      have M9 := Lib.hid m9
      clear r6 r7 r8 k6 k7 k8 k9 hRd r9 m6 m7 m8 m9 b3 mg
      have n9 : W.heap.size ≠ w.heap.size := by omega
      go_wp2_with (refine wpList_store_row rfl 37 _ _ rfl w.heap.size 37 _ _ rfl rfl K6.out (by kernel_rfl) rfl (by simp [Value.oneCell']) ?_)
      generalize w3.setRow w.heap.size #[Value.int .i64 v.proc, Value.int .i64 v.index, Value.int .i64 v.ev.k0, Value.int .i64 v.ev.k1, Value.int .i64 v.ev.k2, Value.int .i64 v.ev.k3, Value.int .i64 v.ev.k4, Value.int .i64 v.ev.k5, Value.int .i64 v.ev.k6] = W4 at *
      have e9 : W4.cell? ⟨W.heap.size, 1, none⟩ = some (.int .i64 (q : Int)) := by rw [cell_of_row _ _ _ _ _ _ M9.out]; rfl
      have E9 := Lib.hid e9
      clear e9
      refine wp_region_lexL (fun w' => w'.heap[w.heap.size]? = some (.cells #[Value.int .i64 v.proc, Value.int .i64 v.index, Value.int .i64 v.ev.k0, Value.int .i64 v.ev.k1, Value.int .i64 v.ev.k2, Value.int .i64 v.ev.k3, Value.int .i64 v.ev.k4, Value.int .i64 v.ev.k5, Value.int .i64 v.ev.k6] 37 (0, 0)) ∧ w'.cell? ⟨W.heap.size, 1, none⟩ = some (.int .i64 (q : Int))) (by kernel_rfl) (by kernel_rfl) ⟨M6.out, E9.out⟩ ?_
      repeat (first | (refine lexL_q0 rfl ?_; go_big_quiet_step (fail); refine wpQuiet_nil ?_) | (refine lexL_skip0 rfl rfl ?_; simp only [Act.put, List.setIfInBounds_toArray, List.set_cons_succ, List.set_cons_zero]))
      refine lexL_ld (⟨w.heap.size, 0, none⟩) (.agg #[Value.int .i64 v.proc, Value.int .i64 v.index, Value.int .i64 v.ev.k0, Value.int .i64 v.ev.k1, Value.int .i64 v.ev.k2, Value.int .i64 v.ev.k3, Value.int .i64 v.ev.k4, Value.int .i64 v.ev.k5, Value.int .i64 v.ev.k6]) rfl rfl rfl (fun w' hw' => run_ld_block hw'.1 Try.underlying37 rfl (by kernel_rfl)) ?_
      simp only [Act.put, List.setIfInBounds_toArray, List.set_cons_succ, List.set_cons_zero]
      repeat (first | (refine lexL_q0 rfl ?_; go_big_quiet_step (fail); refine wpQuiet_nil ?_) | (refine lexL_skip0 rfl rfl ?_; simp only [Act.put, List.setIfInBounds_toArray, List.set_cons_succ, List.set_cons_zero]))
      refine lexL_ld (⟨W.heap.size, 1, none⟩) (.int .i64 (q : Int)) rfl rfl rfl (fun w' hw' => run_ld1 (hag _) hw'.2) ?_
      simp only [Act.put, List.setIfInBounds_toArray, List.set_cons_succ, List.set_cons_zero]
      repeat (first | (refine lexL_q0 rfl ?_; go_big_quiet_step (fail); refine wpQuiet_nil ?_) | (refine lexL_skip0 rfl rfl ?_; simp only [Act.put, List.setIfInBounds_toArray, List.set_cons_succ, List.set_cons_zero]))
      have D6 : RowKit.Hid (W4.drew.heap[w.heap.size]? = some (.cells #[Value.int .i64 v.proc, Value.int .i64 v.index, Value.int .i64 v.ev.k0, Value.int .i64 v.ev.k1, Value.int .i64 v.ev.k2, Value.int .i64 v.ev.k3, Value.int .i64 v.ev.k4, Value.int .i64 v.ev.k5, Value.int .i64 v.ev.k6] 37 (0, 0))) := Lib.hid M6.out
      refine lexL_e rfl ?_
      refine wpList_store_row rfl 37 _ _ rfl w.heap.size 37 _ _ rfl rfl D6.out (by kernel_rfl) rfl (by simp [Value.oneCell']) ?_
      have u6 : (W4.drew.setRow w.heap.size #[Value.int .i64 v.proc, Value.int .i64 v.index, Value.int .i64 v.ev.k0, Value.int .i64 v.ev.k1, Value.int .i64 v.ev.k2, Value.int .i64 v.ev.k3, Value.int .i64 v.ev.k4, Value.int .i64 v.ev.k5, Value.int .i64 v.ev.k6]).heap[w.heap.size]? = some (.cells #[Value.int .i64 v.proc, Value.int .i64 v.index, Value.int .i64 v.ev.k0, Value.int .i64 v.ev.k1, Value.int .i64 v.ev.k2, Value.int .i64 v.ev.k3, Value.int .i64 v.ev.k4, Value.int .i64 v.ev.k5, Value.int .i64 v.ev.k6] 37 (0, 0)) := setRow_heap _ _ _ _ _ _ D6.out
      have u7 := (setRow_other W4.drew w.heap.size (w.heap.size + 1) #[Value.int .i64 v.proc, Value.int .i64 v.index, Value.int .i64 v.ev.k0, Value.int .i64 v.ev.k1, Value.int .i64 v.ev.k2, Value.int .i64 v.ev.k3, Value.int .i64 v.ev.k4, Value.int .i64 v.ev.k5, Value.int .i64 v.ev.k6] (by omega)).trans M7.out
      have u8 := (setRow_other W4.drew w.heap.size (w.heap.size + 1 + 1) #[Value.int .i64 v.proc, Value.int .i64 v.index, Value.int .i64 v.ev.k0, Value.int .i64 v.ev.k1, Value.int .i64 v.ev.k2, Value.int .i64 v.ev.k3, Value.int .i64 v.ev.k4, Value.int .i64 v.ev.k5, Value.int .i64 v.ev.k6] (by omega)).trans M8.out
      have u9 := (setRow_other W4.drew w.heap.size W.heap.size #[Value.int .i64 v.proc, Value.int .i64 v.index, Value.int .i64 v.ev.k0, Value.int .i64 v.ev.k1, Value.int .i64 v.ev.k2, Value.int .i64 v.ev.k3, Value.int .i64 v.ev.k4, Value.int .i64 v.ev.k5, Value.int .i64 v.ev.k6] (by omega)).trans M9.out
      have ub : Below w.heap.size w (W4.drew.setRow w.heap.size #[Value.int .i64 v.proc, Value.int .i64 v.index, Value.int .i64 v.ev.k0, Value.int .i64 v.ev.k1, Value.int .i64 v.ev.k2, Value.int .i64 v.ev.k3, Value.int .i64 v.ev.k4, Value.int .i64 v.ev.k5, Value.int .i64 v.ev.k6]) := Below.setRow mb.drew (Nat.le_refl _) _
      have ug : W4.drew.grownBy (W4.drew.setRow w.heap.size #[Value.int .i64 v.proc, Value.int .i64 v.index, Value.int .i64 v.ev.k0, Value.int .i64 v.ev.k1, Value.int .i64 v.ev.k2, Value.int .i64 v.ev.k3, Value.int .i64 v.ev.k4, Value.int .i64 v.ev.k5, Value.int .i64 v.ev.k6]) (some w.heap.size) := grown_setRow _ _ _
      generalize W4.drew.setRow w.heap.size #[Value.int .i64 v.proc, Value.int .i64 v.index, Value.int .i64 v.ev.k0, Value.int .i64 v.ev.k1, Value.int .i64 v.ev.k2, Value.int .i64 v.ev.k3, Value.int .i64 v.ev.k4, Value.int .i64 v.ev.k5, Value.int .i64 v.ev.k6] = W5 at *
      have c9 : W5.cell? ⟨W.heap.size, 1, none⟩ = some (.int .i64 (q : Int)) := by rw [cell_of_row _ _ _ _ _ _ u9]; rfl
      have c7 : W5.cell? ⟨w.heap.size + 1, 0, none⟩ = some (.int .i64 0) := by rw [cell_of_row _ _ _ _ _ _ u7]; rfl
      have c8 : W5.cell? ⟨w.heap.size + 1 + 1, 0, none⟩ = some (.int .i64 0) := by rw [cell_of_row _ _ _ _ _ _ u8]; rfl
      have f7 := frozen_of_row _ _ 0 _ _ u7
      have f8 := frozen_of_row _ _ 0 _ _ u8
      have U6 := Lib.hid u6
      clear u6 u7 u8 u9 ug
      refine lexL_go ⟨U6.out, c9⟩ ?_
      simp only [Act.put]
      repeat (first | (refine lexL_q0 rfl ?_; go_big_quiet_step (fail); refine wpQuiet_nil ?_) | (refine lexL_skip0 rfl rfl ?_; simp only [Act.put, List.setIfInBounds_toArray, List.set_cons_succ, List.set_cons_zero]))
      refine lexL_e rfl ?_
      go_wp2_with fail
      go_wp2_with fail
      refine lexL_go (⟨(heap_setCell_other _ ⟨w.heap.size + 1, 0, none⟩ _ _ (show w.heap.size ≠ w.heap.size + 1 by omega)).trans U6.out, by go_simp⟩) ?_
      repeat (first | (refine lexL_q0 rfl ?_; go_big_quiet_step (fail); refine wpQuiet_nil ?_) | (refine lexL_skip0 rfl rfl ?_; simp only [Act.put, List.setIfInBounds_toArray, List.set_cons_succ, List.set_cons_zero]))
      refine lexL_e rfl ?_
      go_wp2_with fail
      go_wp2_with fail
      refine lexL_go (⟨(heap_setCell_other _ ⟨w.heap.size + 1 + 1, 0, none⟩ _ _ (show w.heap.size ≠ w.heap.size + 1 + 1 by omega)).trans ((heap_setCell_other _ ⟨w.heap.size + 1, 0, none⟩ _ _ (show w.heap.size ≠ w.heap.size + 1 by omega)).trans U6.out), by go_simp⟩) ?_
      repeat (first | (refine lexL_q0 rfl ?_; go_big_quiet_step (fail); refine wpQuiet_nil ?_) | (refine lexL_skip0 rfl rfl ?_; simp only [Act.put, List.setIfInBounds_toArray, List.set_cons_succ, List.set_cons_zero]))
      refine lexL_nil ?_
      go_wp2_with fail
      have g6 : ((W5.setCell ⟨w.heap.size + 1, 0, none⟩ (.int .i64 (q : Int))).setCell ⟨w.heap.size + 1 + 1, 0, none⟩ (.int .i64 0)).heap[w.heap.size]? = some (.cells #[Value.int .i64 v.proc, Value.int .i64 v.index, Value.int .i64 v.ev.k0, Value.int .i64 v.ev.k1, Value.int .i64 v.ev.k2, Value.int .i64 v.ev.k3, Value.int .i64 v.ev.k4, Value.int .i64 v.ev.k5, Value.int .i64 v.ev.k6] 37 (0, 0)) := (heap_setCell_other _ ⟨w.heap.size + 1 + 1, 0, none⟩ _ _ (show w.heap.size ≠ w.heap.size + 1 + 1 by omega)).trans ((heap_setCell_other _ ⟨w.heap.size + 1, 0, none⟩ _ _ (show w.heap.size ≠ w.heap.size + 1 by omega)).trans U6.out)
      have g7 : ((W5.setCell ⟨w.heap.size + 1, 0, none⟩ (.int .i64 (q : Int))).setCell ⟨w.heap.size + 1 + 1, 0, none⟩ (.int .i64 0)).cell? ⟨w.heap.size + 1, 0, none⟩ = some (.int .i64 (q : Int)) := by go_simp
      have g8 : ((W5.setCell ⟨w.heap.size + 1, 0, none⟩ (.int .i64 (q : Int))).setCell ⟨w.heap.size + 1 + 1, 0, none⟩ (.int .i64 0)).cell? ⟨w.heap.size + 1 + 1, 0, none⟩ = some (.int .i64 0) := by go_simp
      have b7 := (ub.setCell (p := ⟨w.heap.size + 1, 0, none⟩) (show _ ≤ w.heap.size + 1 by omega) (.int .i64 (q : Int))).setCell (p := ⟨w.heap.size + 1 + 1, 0, none⟩) (show _ ≤ w.heap.size + 1 + 1 by omega) (.int .i64 0)
      have vg1 : W5.grownBy (W5.setCell ⟨w.heap.size + 1, 0, none⟩ (.int .i64 (q : Int))) (some (w.heap.size + 1)) := grown_set ⟨rfl, rfl, rfl, Nat.le_refl _, fun _ _ _ => rfl⟩
      have vg2 : (W5.setCell ⟨w.heap.size + 1, 0, none⟩ (.int .i64 (q : Int))).grownBy ((W5.setCell ⟨w.heap.size + 1, 0, none⟩ (.int .i64 (q : Int))).setCell ⟨w.heap.size + 1 + 1, 0, none⟩ (.int .i64 0)) (some (w.heap.size + 1 + 1)) := grown_set ⟨rfl, rfl, rfl, Nat.le_refl _, fun _ _ _ => rfl⟩
      generalize ((W5.setCell ⟨w.heap.size + 1, 0, none⟩ (.int .i64 (q : Int))).setCell ⟨w.heap.size + 1 + 1, 0, none⟩ (.int .i64 0)) = W7 at *
      refine leaves_cons (f := 69) (args := #[.pointer (some ⟨w.heap.size, 0, none⟩), .pointer (some ⟨w.heap.size + 1, 0, none⟩), .pointer (some ⟨w.heap.size + 1 + 1, 0, none⟩)]) (by simp) (by simp [go_sem]) ?_
      refine (catchD_idle _ _ _ W7).mono ?_
      rintro e u' w'' ⟨rfl, rfl, rfl⟩
      refine leaves_ccc rfl (results_ccc rfl rfl rfl rfl (run_ld_block g6 Try.underlying37 rfl (by kernel_rfl)) (run_ld1 (hag _) g7) (run_ld1 (hae _) g8)) ?_
      refine ⟨?_, b7⟩
      rw [hx]
      exact ⟨_, rfl, rfl⟩

theorem catchS_idle (p q s : Addr) (w : World) : CallsD Try.prog 62 #[.pointer (some p), .pointer (some q), .pointer (some s)] .returning w fun e u' w' => e = .returned (.tuple #[]) ∧ u' = .returning ∧ w' = w := by
  refine callsD_of_wpS Try.func62 rfl fun c₀ cs hu => ?_
  apply wpS_seq
  apply wpS_region
  generalize hQ : Exit.thenS _ _ = Q0
  simp [wpOpsS, go_sem, recoverD, hu, Try.ntmps62, Array.replicate]
  subst hQ
  refine wpS_of_wp ?_
  go_wp2
  cases c₀
  simp_all [bodyPostS, results, Try.results62]

set_option maxHeartbeats 1000000 in
theorem catchS_fail (k b6 b7 b8 : Nat) (x6 : Array Value) (x7 x8 : Int) (w w0 : World) (B : Nat) (h6 : w.heap[b6]? = some (.cells x6 43 (0, 0))) (hx6 : x6.size = 4) (h7 : w.heap[b7]? = some (.cells #[.int .i64 x7] 3 (0, 0))) (h8 : w.heap[b8]? = some (.cells #[.int .i64 x8] 26 (0, 0))) (hne : b6 ≠ b7 ∧ b6 ≠ b8 ∧ b7 ≠ b8) (hB : B ≤ b6 ∧ B ≤ b7 ∧ B ≤ b8) (hw : Below B w0 w) :
    CallsD Try.prog 62 #[.pointer (some ⟨b6, 0, none⟩), .pointer (some ⟨b7, 0, none⟩), .pointer (some ⟨b8, 0, none⟩)] (.panicking (failP k)) w fun e u' w' => e = .returned (.tuple #[]) ∧ u' = .panicking [{ v := failV k, recovered := true }] ∧ w'.heap[b6]? = some (.cells #[Value.slice none 0 0, Value.slice none 0 0, Value.slice none 0 0, Value.slice none 0 0] 43 (0, 0)) ∧ w'.cell? ⟨b7, 0, none⟩ = some (.int .i64 0) ∧ w'.cell? ⟨b8, 0, none⟩ = some (.int .i64 (k : Int)) ∧ Below B w0 w' := by
  have l6 := (Array.getElem?_eq_some_iff.1 h6).1
  have l7 := (Array.getElem?_eq_some_iff.1 h7).1
  have l8 := (Array.getElem?_eq_some_iff.1 h8).1
  obtain ⟨n1, n2, n3⟩ := hne
  have n1' := n1.symm
  have n2' := n2.symm
  have n3' := n3.symm
  have ha : Below w.heap.size w (w.alloc (.cells #[Value.slice none 0 0, Value.slice none 0 0, Value.slice none 0 0, Value.slice none 0 0] 43)) := (Below.refl _ _).alloc (Nat.le_refl _) _
  have a6 := (ha.block b6 l6).trans h6
  have A6 := Lib.hid a6
  have w6 : ((w.alloc (.cells #[Value.slice none 0 0, Value.slice none 0 0, Value.slice none 0 0, Value.slice none 0 0] 43)).setRow b6 #[Value.slice none 0 0, Value.slice none 0 0, Value.slice none 0 0, Value.slice none 0 0]).heap[b6]? = some (.cells #[Value.slice none 0 0, Value.slice none 0 0, Value.slice none 0 0, Value.slice none 0 0] 43 (0, 0)) := setRow_heap _ _ _ _ _ _ a6
  have w7 : ((w.alloc (.cells #[Value.slice none 0 0, Value.slice none 0 0, Value.slice none 0 0, Value.slice none 0 0] 43)).setRow b6 #[Value.slice none 0 0, Value.slice none 0 0, Value.slice none 0 0, Value.slice none 0 0]).heap[b7]? = some (.cells #[.int .i64 x7] 3 (0, 0)) := (setRow_other _ _ _ _ n1').trans ((ha.block b7 l7).trans h7)
  have w8 : ((w.alloc (.cells #[Value.slice none 0 0, Value.slice none 0 0, Value.slice none 0 0, Value.slice none 0 0] 43)).setRow b6 #[Value.slice none 0 0, Value.slice none 0 0, Value.slice none 0 0, Value.slice none 0 0]).heap[b8]? = some (.cells #[.int .i64 x8] 26 (0, 0)) := (setRow_other _ _ _ _ n2').trans ((ha.block b8 l8).trans h8)
  have hw2 : Below B w0 ((w.alloc (.cells #[Value.slice none 0 0, Value.slice none 0 0, Value.slice none 0 0, Value.slice none 0 0] 43)).setRow b6 #[Value.slice none 0 0, Value.slice none 0 0, Value.slice none 0 0, Value.slice none 0 0]) := Below.setRow (hw.alloc (by omega) _) hB.1 _
  have c7 : ((w.alloc (.cells #[Value.slice none 0 0, Value.slice none 0 0, Value.slice none 0 0, Value.slice none 0 0] 43)).setRow b6 #[Value.slice none 0 0, Value.slice none 0 0, Value.slice none 0 0, Value.slice none 0 0]).cell? ⟨b7, 0, none⟩ = some (.int .i64 x7) := by rw [cell_of_row _ _ _ _ _ _ w7]; rfl
  have c8 : ((w.alloc (.cells #[Value.slice none 0 0, Value.slice none 0 0, Value.slice none 0 0, Value.slice none 0 0] 43)).setRow b6 #[Value.slice none 0 0, Value.slice none 0 0, Value.slice none 0 0, Value.slice none 0 0]).cell? ⟨b8, 0, none⟩ = some (.int .i64 x8) := by rw [cell_of_row _ _ _ _ _ _ w8]; rfl
  have f7 := frozen_of_row _ _ 0 _ _ w7
  have f8 := frozen_of_row _ _ 0 _ _ w8
  have hsz : ((w.alloc (.cells #[Value.slice none 0 0, Value.slice none 0 0, Value.slice none 0 0, Value.slice none 0 0] 43)).setRow b6 #[Value.slice none 0 0, Value.slice none 0 0, Value.slice none 0 0, Value.slice none 0 0]).heap.size = w.heap.size + 1 := by rw [setRow_size]; simp
  have H6 := Lib.hid w6
  have H7 := Lib.hid w7
  have H8 := Lib.hid w8
  have HW := Lib.hid hw2
  clear h6 h7 h8 a6 w6 w7 w8 ha hw2
  unfold failP
  refine callsD_of_wpS Try.func62 rfl fun c₀ cs hu => ?_
  apply wpS_seq
  apply wpS_region
  generalize hQ : Exit.thenS _ _ = Q0
  simp [wpOpsS, go_sem, recoverD, hu, Try.ntmps62, Array.replicate]
  subst hQ
  refine wpS_of_wp ?_
  unfold failV
  have hta := run_assert (.agg #[.int .i64 (k : Int)])
  go_wp2_with (refine wpList_store_row rfl 43 _ _ rfl b6 43 _ _ rfl rfl A6.out (by kernel_rfl) (by rw [hx6]; rfl) (by simp [Value.oneCell']) ?_; generalize (w.alloc (.cells #[Value.slice none 0 0, Value.slice none 0 0, Value.slice none 0 0, Value.slice none 0 0] 43)).setRow b6 #[Value.slice none 0 0, Value.slice none 0 0, Value.slice none 0 0, Value.slice none 0 0] = W2 at *)
  refine ⟨rfl, _, rfl, _, results_none rfl _ _ _, rfl, rfl, ?_, ?_, ?_, ?_⟩
  · have r1 : (((W2.setCell ⟨b7, 0, none⟩ (.int .i64 0)).setCell ⟨b8, 0, none⟩ (.int .i64 9)).setCell ⟨b8, 0, none⟩ (.int .i64 (k : Int))).heap[b6]? = some (.cells #[Value.slice none 0 0, Value.slice none 0 0, Value.slice none 0 0, Value.slice none 0 0] 43 (0, 0)) := by
      rw [heap_setCell_other _ _ _ _ n2, heap_setCell_other _ _ _ _ n2, heap_setCell_other _ _ _ _ n1]
      exact H6.out
    exact (((Below.refl _ _).alloc (Nat.le_refl _) _).block b6 (Array.getElem?_eq_some_iff.1 r1).1).trans r1
  · go_simp
  · have r2 : ((W2.setCell ⟨b7, 0, none⟩ (.int .i64 0)).setCell ⟨b8, 0, none⟩ (.int .i64 9)).heap[b8]? = some (.cells #[.int .i64 9] 26 (0, 0)) := heap_setCell_same _ b8 0 _ _ _ ((heap_setCell_other _ ⟨b7, 0, none⟩ _ _ n3').trans H8.out)
    have r3 : (((W2.setCell ⟨b7, 0, none⟩ (.int .i64 0)).setCell ⟨b8, 0, none⟩ (.int .i64 9)).setCell ⟨b8, 0, none⟩ (.int .i64 (k : Int))).heap[b8]? = some (.cells #[.int .i64 (k : Int)] 26 (0, 0)) := heap_setCell_same _ b8 0 _ _ _ r2
    have r4 := cell_of_row _ _ 0 _ _ _ r3
    go_simp
  · exact Below.alloc (Below.setCell (p := ⟨b8, 0, none⟩) (Below.setCell (p := ⟨b8, 0, none⟩) (Below.setCell (p := ⟨b7, 0, none⟩) HW.out hB.2.1 _) hB.2.2 _) hB.2.2 _) (by simp; omega) _

set_option maxHeartbeats 2000000 in
theorem readS_any (A : Option Addr) (n c : Nat) (k : Int) (L : List UInt8) (S : Nat → Prop) (w : World) (hb : Bytes S w (.slice A n c) L) (hn : n ≤ 100000000) :
    Calls Try.prog 45 #[.slice A n c, .int .i64 k, .func (.func 46) #[] #[]] w fun e w' => RdOut (rdAt rdSt L k) (.agg #[Value.slice none 0 0, Value.slice none 0 0, Value.slice none 0 0, Value.slice none 0 0]) (fun a w' v => StO w' w.heap.size v a) e w' ∧ Below w.heap.size w w' := by
  have hmf : ∀ (fn : Fn) (first cap : Array Value) (w : World), (Instr.makeFunc fn first cap).run Try.prog w = .ok (.func fn first cap) w := fun _ _ _ _ => rfl
  have hag : ∀ w : World, (isAgg 3).run Try.prog w = .ok false w := fun w => by simp [isAgg, run_underlying Try.underlying3]
  have hae : ∀ w : World, (isAgg 26).run Try.prog w = .ok false w := fun w => by simp [isAgg, run_underlying Try.underlying26]
  have hln := hb.len
  obtain ⟨W, hW, hbW, hsW, r6, r7, r8⟩ := boxes3 w (.cells #[Value.slice none 0 0, Value.slice none 0 0, Value.slice none 0 0, Value.slice none 0 0] 43) (.cells #[.int .i64 0] 3) (.cells #[.int .i64 0] 26)
  by_cases hk : k < 0 ∨ (L.length : Int) < k
  · have hcat := catchS_fail 3 w.heap.size (w.heap.size + 1) (w.heap.size + 1 + 1) _ _ _ W w w.heap.size r6 rfl r7 r8 ⟨by omega, by omega, by omega⟩ ⟨by omega, by omega, by omega⟩ hbW
    have Hcat := Lib.hid hcat
    clear hcat r6 r7 r8
    have hfin : rdAt rdSt L k = .error 3 := if_pos hk
    rw [hfin]
    by_cases h0 : k < 0
    · have d0 : decide (k < 0) = true := by simpa using h0
      go_enter_defers Try.func45, Try.ntmps45
      go_wp2
      rw [← hW]
      refine leaves_cons (f := 62) (args := #[.pointer (some ⟨w.heap.size, 0, none⟩), .pointer (some ⟨w.heap.size + 1, 0, none⟩), .pointer (some ⟨w.heap.size + 1 + 1, 0, none⟩)]) (by simp) (by simp [go_sem]) ?_
      refine Hcat.out.mono ?_
      rintro e u' w'' ⟨rfl, rfl, g6, g7, g8, hbb⟩
      refine leaves_ccc rfl (results_ccc rfl rfl rfl rfl (run_ld_block g6 Try.underlying43 rfl (by kernel_rfl)) (run_ld1 (hag _) g7) (run_ld1 (hae _) g8)) ?_
      exact ⟨rfl, hbb⟩
    · have d0 : decide (k < 0) = false := by simpa using h0
      have d1 : decide ((n : Int) < k) = true := by simp; omega
      go_enter_defers Try.func45, Try.ntmps45
      go_wp2
      rw [← hW]
      refine leaves_cons (f := 62) (args := #[.pointer (some ⟨w.heap.size, 0, none⟩), .pointer (some ⟨w.heap.size + 1, 0, none⟩), .pointer (some ⟨w.heap.size + 1 + 1, 0, none⟩)]) (by simp) (by simp [go_sem]) ?_
      refine Hcat.out.mono ?_
      rintro e u' w'' ⟨rfl, rfl, g6, g7, g8, hbb⟩
      refine leaves_ccc rfl (results_ccc rfl rfl rfl rfl (run_ld_block g6 Try.underlying43 rfl (by kernel_rfl)) (run_ld1 (hag _) g7) (run_ld1 (hae _) g8)) ?_
      exact ⟨rfl, hbb⟩
  · obtain ⟨p, rfl⟩ := Int.eq_ofNat_of_zero_le (show 0 ≤ k by omega)
    have hp : p ≤ n := by omega
    have hfin : rdAt rdSt L (p : Int) = rdSt L p := (if_neg hk).trans (by rw [Int.toNat_natCast])
    rw [hfin]
    clear hfin hk
    have d0 : decide ((p : Int) < 0) = false := by simp
    have d1 : decide ((n : Int) < (p : Int)) = false := by simp; omega
    have d2 : decide (n < p) = false := by simp; omega
    obtain ⟨W2, hW2⟩ : ∃ W2, W2 = W.alloc (.cells #[.slice A n c, .int .i64 (p : Int)] 93) := ⟨_, rfl⟩
    have hb2 : Below W.heap.size W W2 := by rw [hW2]; exact (Below.refl _ _).alloc (Nat.le_refl _) _
    have r9 : W2.heap[W.heap.size]? = some (.cells #[.slice A n c, .int .i64 (p : Int)] 93 (0, 0)) := by rw [hW2]; exact heap_alloc_new _ _
    have hRd : Rdr w.heap.size W2 W.heap.size L p := by
      have h1 := hln.1
      subst h1
      exact ⟨by omega, A, c, r9, (hb.mono (fun _ h _ => h)).ext (Below.ext hbW hb2), by omega, by omega⟩
    go_enter_defers Try.func45, Try.ntmps45
    go_wp2_with fail
    rw [← hW, ← hsW, ← hW2]
    refine (rstate_any w.heap.size W.heap.size p L W2 hRd).mono ?_
    intro e w3 h3
    have s2 := hb2.size
    have hs3 : w.heap.size + 1 + 1 < W.heap.size := by omega
    clear hsW hW hW2
    have hlt9 : W.heap.size < W2.heap.size := hRd.lt
    unfold Reads at h3
    cases hx : rdSt L p with
    | error x =>
      rw [hx] at h3
      obtain ⟨rfl, hg3⟩ := h3
      have k6 := (hg3.block w.heap.size (by omega) (by simp; omega)).trans ((hb2.block _ (by omega)).trans r6)
      have k7 := (hg3.block (w.heap.size + 1) (by omega) (by simp; omega)).trans ((hb2.block _ (by omega)).trans r7)
      have k8 := (hg3.block (w.heap.size + 1 + 1) (by omega) (by simp; omega)).trans ((hb2.block _ (by omega)).trans r8)
      have hcat := catchS_fail x w.heap.size (w.heap.size + 1) (w.heap.size + 1 + 1) _ _ _ w3 w w.heap.size k6 rfl k7 k8 ⟨by omega, by omega, by omega⟩ ⟨by omega, by omega, by omega⟩ (Below.grow (Below.ext hbW hb2) hg3 (by omega))
      have Hcat := Lib.hid hcat
      clear hcat r6 r7 r8 k6 k7 k8 hRd r9
      go_wp2
      refine leaves_cons (f := 62) (args := #[.pointer (some ⟨w.heap.size, 0, none⟩), .pointer (some ⟨w.heap.size + 1, 0, none⟩), .pointer (some ⟨w.heap.size + 1 + 1, 0, none⟩)]) (by simp [failP]) (by simp [go_sem]) ?_
      refine Hcat.out.mono ?_
      rintro e u' w'' ⟨rfl, rfl, g6, g7, g8, hbb⟩
      refine leaves_ccc rfl (results_ccc rfl rfl rfl rfl (run_ld_block g6 Try.underlying43 rfl (by kernel_rfl)) (run_ld1 (hag _) g7) (run_ld1 (hae _) g8)) ?_
      rw [hx]
      exact ⟨rfl, hbb⟩
    | ok vq =>
      obtain ⟨v, q⟩ := vq
      rw [hx] at h3
      obtain ⟨⟨_, rfl, hV⟩, hR3, hg3⟩ := h3
      obtain ⟨A1, c1, A2, c2, A3, c3, A4, c4, rfl, hO1, hO2, hO3, hO4⟩ := hV
      have k6 := (hg3.block w.heap.size (by omega) (by simp; omega)).trans ((hb2.block _ (by omega)).trans r6)
      have k7 := (hg3.block (w.heap.size + 1) (by omega) (by simp; omega)).trans ((hb2.block _ (by omega)).trans r7)
      have k8 := (hg3.block (w.heap.size + 1 + 1) (by omega) (by simp; omega)).trans ((hb2.block _ (by omega)).trans r8)
      have b3 := Below.grow (Below.ext hbW hb2) hg3 (by omega)
      have hs33 := hg3.size
      have k9 : ∃ A' c', w3.heap[W.heap.size]? = some (.cells #[.slice A' L.length c', .int .i64 (q : Int)] 93 (0, 0)) := by obtain ⟨_, A', c', h1, _⟩ := hR3; exact ⟨A', c', h1⟩
      obtain ⟨Ar, cr, k9⟩ := k9
      have K6 := Lib.hid k6
      have m6 : (w3.setRow w.heap.size #[Value.slice A1 v.cells.length c1, Value.slice A2 v.evs.length c2, Value.slice A3 v.sent.length c3, Value.slice A4 v.outs.length c4]).heap[w.heap.size]? = some (.cells #[Value.slice A1 v.cells.length c1, Value.slice A2 v.evs.length c2, Value.slice A3 v.sent.length c3, Value.slice A4 v.outs.length c4] 43 (0, 0)) := setRow_heap _ _ _ _ _ _ k6
      have m7 := (setRow_other w3 w.heap.size (w.heap.size + 1) #[Value.slice A1 v.cells.length c1, Value.slice A2 v.evs.length c2, Value.slice A3 v.sent.length c3, Value.slice A4 v.outs.length c4] (by omega)).trans k7
      have m8 := (setRow_other w3 w.heap.size (w.heap.size + 1 + 1) #[Value.slice A1 v.cells.length c1, Value.slice A2 v.evs.length c2, Value.slice A3 v.sent.length c3, Value.slice A4 v.outs.length c4] (by omega)).trans k8
      have m9 := (setRow_other w3 w.heap.size W.heap.size #[Value.slice A1 v.cells.length c1, Value.slice A2 v.evs.length c2, Value.slice A3 v.sent.length c3, Value.slice A4 v.outs.length c4] (by omega)).trans k9
      have mb : Below w.heap.size w (w3.setRow w.heap.size #[Value.slice A1 v.cells.length c1, Value.slice A2 v.evs.length c2, Value.slice A3 v.sent.length c3, Value.slice A4 v.outs.length c4]) := Below.setRow b3 (Nat.le_refl _) _
      have mg : w3.grownBy (w3.setRow w.heap.size #[Value.slice A1 v.cells.length c1, Value.slice A2 v.evs.length c2, Value.slice A3 v.sent.length c3, Value.slice A4 v.outs.length c4]) (some w.heap.size) := grown_setRow _ _ _
      have hO1 := hO1.kept_lt mg (by omega)
      have hO2 := hO2.kept_lt mg (by omega)
      have hO3 := hO3.kept_lt mg (by omega)
      have hO4 := hO4.kept_lt mg (by omega)
      have ms : (w3.setRow w.heap.size #[Value.slice A1 v.cells.length c1, Value.slice A2 v.evs.length c2, Value.slice A3 v.sent.length c3, Value.slice A4 v.outs.length c4]).heap.size = w3.heap.size := setRow_size _ _ _
      have M6 := Lib.hid m6
      have M7 := Lib.hid m7
      have M8 := Lib.hid m8
      have M9 := Lib.hid m9
      clear r6 r7 r8 k6 k7 k8 k9 hRd r9 m6 m7 m8 m9 b3 mg
      have n9 : W.heap.size ≠ w.heap.size := by omega
      go_wp2_with (refine wpList_store_row rfl 43 _ _ rfl w.heap.size 43 _ _ rfl rfl K6.out (by kernel_rfl) rfl (by simp [Value.oneCell']) ?_)
      generalize w3.setRow w.heap.size #[Value.slice A1 v.cells.length c1, Value.slice A2 v.evs.length c2, Value.slice A3 v.sent.length c3, Value.slice A4 v.outs.length c4] = W4 at *
      have e9 : W4.cell? ⟨W.heap.size, 1, none⟩ = some (.int .i64 (q : Int)) := by rw [cell_of_row _ _ _ _ _ _ M9.out]; rfl
      have E9 := Lib.hid e9
      clear e9
      refine wp_region_lexL (fun w' => w'.heap[w.heap.size]? = some (.cells #[Value.slice A1 v.cells.length c1, Value.slice A2 v.evs.length c2, Value.slice A3 v.sent.length c3, Value.slice A4 v.outs.length c4] 43 (0, 0)) ∧ w'.cell? ⟨W.heap.size, 1, none⟩ = some (.int .i64 (q : Int))) (by kernel_rfl) (by kernel_rfl) ⟨M6.out, E9.out⟩ ?_
      repeat (first | (refine lexL_q0 rfl ?_; go_big_quiet_step (fail); refine wpQuiet_nil ?_) | (refine lexL_skip0 rfl rfl ?_; simp only [Act.put, List.setIfInBounds_toArray, List.set_cons_succ, List.set_cons_zero]))
      refine lexL_ld (⟨w.heap.size, 0, none⟩) (.agg #[Value.slice A1 v.cells.length c1, Value.slice A2 v.evs.length c2, Value.slice A3 v.sent.length c3, Value.slice A4 v.outs.length c4]) rfl rfl rfl (fun w' hw' => run_ld_block hw'.1 Try.underlying43 rfl (by kernel_rfl)) ?_
      simp only [Act.put, List.setIfInBounds_toArray, List.set_cons_succ, List.set_cons_zero]
      repeat (first | (refine lexL_q0 rfl ?_; go_big_quiet_step (fail); refine wpQuiet_nil ?_) | (refine lexL_skip0 rfl rfl ?_; simp only [Act.put, List.setIfInBounds_toArray, List.set_cons_succ, List.set_cons_zero]))
      refine lexL_ld (⟨W.heap.size, 1, none⟩) (.int .i64 (q : Int)) rfl rfl rfl (fun w' hw' => run_ld1 (hag _) hw'.2) ?_
      simp only [Act.put, List.setIfInBounds_toArray, List.set_cons_succ, List.set_cons_zero]
      repeat (first | (refine lexL_q0 rfl ?_; go_big_quiet_step (fail); refine wpQuiet_nil ?_) | (refine lexL_skip0 rfl rfl ?_; simp only [Act.put, List.setIfInBounds_toArray, List.set_cons_succ, List.set_cons_zero]))
      have D6 : RowKit.Hid (W4.drew.heap[w.heap.size]? = some (.cells #[Value.slice A1 v.cells.length c1, Value.slice A2 v.evs.length c2, Value.slice A3 v.sent.length c3, Value.slice A4 v.outs.length c4] 43 (0, 0))) := Lib.hid M6.out
      refine lexL_e rfl ?_
      refine wpList_store_row rfl 43 _ _ rfl w.heap.size 43 _ _ rfl rfl D6.out (by kernel_rfl) rfl (by simp [Value.oneCell']) ?_
      have u6 : (W4.drew.setRow w.heap.size #[Value.slice A1 v.cells.length c1, Value.slice A2 v.evs.length c2, Value.slice A3 v.sent.length c3, Value.slice A4 v.outs.length c4]).heap[w.heap.size]? = some (.cells #[Value.slice A1 v.cells.length c1, Value.slice A2 v.evs.length c2, Value.slice A3 v.sent.length c3, Value.slice A4 v.outs.length c4] 43 (0, 0)) := setRow_heap _ _ _ _ _ _ D6.out
      have u7 := (setRow_other W4.drew w.heap.size (w.heap.size + 1) #[Value.slice A1 v.cells.length c1, Value.slice A2 v.evs.length c2, Value.slice A3 v.sent.length c3, Value.slice A4 v.outs.length c4] (by omega)).trans M7.out
      have u8 := (setRow_other W4.drew w.heap.size (w.heap.size + 1 + 1) #[Value.slice A1 v.cells.length c1, Value.slice A2 v.evs.length c2, Value.slice A3 v.sent.length c3, Value.slice A4 v.outs.length c4] (by omega)).trans M8.out
      have u9 := (setRow_other W4.drew w.heap.size W.heap.size #[Value.slice A1 v.cells.length c1, Value.slice A2 v.evs.length c2, Value.slice A3 v.sent.length c3, Value.slice A4 v.outs.length c4] (by omega)).trans M9.out
      have ub : Below w.heap.size w (W4.drew.setRow w.heap.size #[Value.slice A1 v.cells.length c1, Value.slice A2 v.evs.length c2, Value.slice A3 v.sent.length c3, Value.slice A4 v.outs.length c4]) := Below.setRow mb.drew (Nat.le_refl _) _
      have ug : W4.drew.grownBy (W4.drew.setRow w.heap.size #[Value.slice A1 v.cells.length c1, Value.slice A2 v.evs.length c2, Value.slice A3 v.sent.length c3, Value.slice A4 v.outs.length c4]) (some w.heap.size) := grown_setRow _ _ _
      have hO1 := (hO1.ext (w' := W4.drew) (Below.refl _ _).drew).kept_lt ug (by omega)
      have hO2 := (hO2.ext (w' := W4.drew) (Below.refl _ _).drew).kept_lt ug (by omega)
      have hO3 := (hO3.ext (w' := W4.drew) (Below.refl _ _).drew).kept_lt ug (by omega)
      have hO4 := (hO4.ext (w' := W4.drew) (Below.refl _ _).drew).kept_lt ug (by omega)
      generalize W4.drew.setRow w.heap.size #[Value.slice A1 v.cells.length c1, Value.slice A2 v.evs.length c2, Value.slice A3 v.sent.length c3, Value.slice A4 v.outs.length c4] = W5 at *
      have c9 : W5.cell? ⟨W.heap.size, 1, none⟩ = some (.int .i64 (q : Int)) := by rw [cell_of_row _ _ _ _ _ _ u9]; rfl
      have c7 : W5.cell? ⟨w.heap.size + 1, 0, none⟩ = some (.int .i64 0) := by rw [cell_of_row _ _ _ _ _ _ u7]; rfl
      have c8 : W5.cell? ⟨w.heap.size + 1 + 1, 0, none⟩ = some (.int .i64 0) := by rw [cell_of_row _ _ _ _ _ _ u8]; rfl
      have f7 := frozen_of_row _ _ 0 _ _ u7
      have f8 := frozen_of_row _ _ 0 _ _ u8
      have U6 := Lib.hid u6
      clear u6 u7 u8 u9 ug
      refine lexL_go ⟨U6.out, c9⟩ ?_
      simp only [Act.put]
      repeat (first | (refine lexL_q0 rfl ?_; go_big_quiet_step (fail); refine wpQuiet_nil ?_) | (refine lexL_skip0 rfl rfl ?_; simp only [Act.put, List.setIfInBounds_toArray, List.set_cons_succ, List.set_cons_zero]))
      refine lexL_e rfl ?_
      go_wp2_with fail
      go_wp2_with fail
      refine lexL_go (⟨(heap_setCell_other _ ⟨w.heap.size + 1, 0, none⟩ _ _ (show w.heap.size ≠ w.heap.size + 1 by omega)).trans U6.out, by go_simp⟩) ?_
      repeat (first | (refine lexL_q0 rfl ?_; go_big_quiet_step (fail); refine wpQuiet_nil ?_) | (refine lexL_skip0 rfl rfl ?_; simp only [Act.put, List.setIfInBounds_toArray, List.set_cons_succ, List.set_cons_zero]))
      refine lexL_e rfl ?_
      go_wp2_with fail
      go_wp2_with fail
      refine lexL_go (⟨(heap_setCell_other _ ⟨w.heap.size + 1 + 1, 0, none⟩ _ _ (show w.heap.size ≠ w.heap.size + 1 + 1 by omega)).trans ((heap_setCell_other _ ⟨w.heap.size + 1, 0, none⟩ _ _ (show w.heap.size ≠ w.heap.size + 1 by omega)).trans U6.out), by go_simp⟩) ?_
      repeat (first | (refine lexL_q0 rfl ?_; go_big_quiet_step (fail); refine wpQuiet_nil ?_) | (refine lexL_skip0 rfl rfl ?_; simp only [Act.put, List.setIfInBounds_toArray, List.set_cons_succ, List.set_cons_zero]))
      refine lexL_nil ?_
      go_wp2_with fail
      have g6 : ((W5.setCell ⟨w.heap.size + 1, 0, none⟩ (.int .i64 (q : Int))).setCell ⟨w.heap.size + 1 + 1, 0, none⟩ (.int .i64 0)).heap[w.heap.size]? = some (.cells #[Value.slice A1 v.cells.length c1, Value.slice A2 v.evs.length c2, Value.slice A3 v.sent.length c3, Value.slice A4 v.outs.length c4] 43 (0, 0)) := (heap_setCell_other _ ⟨w.heap.size + 1 + 1, 0, none⟩ _ _ (show w.heap.size ≠ w.heap.size + 1 + 1 by omega)).trans ((heap_setCell_other _ ⟨w.heap.size + 1, 0, none⟩ _ _ (show w.heap.size ≠ w.heap.size + 1 by omega)).trans U6.out)
      have g7 : ((W5.setCell ⟨w.heap.size + 1, 0, none⟩ (.int .i64 (q : Int))).setCell ⟨w.heap.size + 1 + 1, 0, none⟩ (.int .i64 0)).cell? ⟨w.heap.size + 1, 0, none⟩ = some (.int .i64 (q : Int)) := by go_simp
      have g8 : ((W5.setCell ⟨w.heap.size + 1, 0, none⟩ (.int .i64 (q : Int))).setCell ⟨w.heap.size + 1 + 1, 0, none⟩ (.int .i64 0)).cell? ⟨w.heap.size + 1 + 1, 0, none⟩ = some (.int .i64 0) := by go_simp
      have b7 := (ub.setCell (p := ⟨w.heap.size + 1, 0, none⟩) (show _ ≤ w.heap.size + 1 by omega) (.int .i64 (q : Int))).setCell (p := ⟨w.heap.size + 1 + 1, 0, none⟩) (show _ ≤ w.heap.size + 1 + 1 by omega) (.int .i64 0)
      have vg1 : W5.grownBy (W5.setCell ⟨w.heap.size + 1, 0, none⟩ (.int .i64 (q : Int))) (some (w.heap.size + 1)) := grown_set ⟨rfl, rfl, rfl, Nat.le_refl _, fun _ _ _ => rfl⟩
      have vg2 : (W5.setCell ⟨w.heap.size + 1, 0, none⟩ (.int .i64 (q : Int))).grownBy ((W5.setCell ⟨w.heap.size + 1, 0, none⟩ (.int .i64 (q : Int))).setCell ⟨w.heap.size + 1 + 1, 0, none⟩ (.int .i64 0)) (some (w.heap.size + 1 + 1)) := grown_set ⟨rfl, rfl, rfl, Nat.le_refl _, fun _ _ _ => rfl⟩
      have hO1 := (hO1.kept_lt vg1 (by omega)).kept_lt vg2 (by omega)
      have hO2 := (hO2.kept_lt vg1 (by omega)).kept_lt vg2 (by omega)
      have hO3 := (hO3.kept_lt vg1 (by omega)).kept_lt vg2 (by omega)
      have hO4 := (hO4.kept_lt vg1 (by omega)).kept_lt vg2 (by omega)
      generalize ((W5.setCell ⟨w.heap.size + 1, 0, none⟩ (.int .i64 (q : Int))).setCell ⟨w.heap.size + 1 + 1, 0, none⟩ (.int .i64 0)) = W7 at *
      refine leaves_cons (f := 62) (args := #[.pointer (some ⟨w.heap.size, 0, none⟩), .pointer (some ⟨w.heap.size + 1, 0, none⟩), .pointer (some ⟨w.heap.size + 1 + 1, 0, none⟩)]) (by simp) (by simp [go_sem]) ?_
      refine (catchS_idle _ _ _ W7).mono ?_
      rintro e u' w'' ⟨rfl, rfl, rfl⟩
      refine leaves_ccc rfl (results_ccc rfl rfl rfl rfl (run_ld_block g6 Try.underlying43 rfl (by kernel_rfl)) (run_ld1 (hag _) g7) (run_ld1 (hae _) g8)) ?_
      refine ⟨?_, b7⟩
      rw [hx]
      exact ⟨_, rfl, A1, c1, A2, c2, A3, c3, A4, c4, rfl, hO1.weak (by omega), hO2.weak (by omega), hO3.weak (by omega), hO4.weak (by omega)⟩

theorem PgsOwn.dr {base : Nat} {w : World} {v : Value} {ts : List Pg} (h : PgsOwn base w v ts) : PgsOwn base w.drew v ts := by
  obtain ⟨xs, h1, h2, h3⟩ := h
  exact ⟨xs, h1.ext (Below.refl _ _).drew, h2, fun i x t hx ht => ⟨(h3 i x t hx ht).1, (h3 i x t hx ht).2.ext (Below.refl _ _).drew⟩⟩
theorem PgsOwn.weak {base base' : Nat} {w : World} {v : Value} {ts : List Pg} (h : PgsOwn base w v ts) (hle : base' ≤ base) : PgsOwn base' w v ts := by
  obtain ⟨xs, h1, h2, h3⟩ := h
  exact ⟨xs, h1.weak hle, h2, fun i x t hx ht => ⟨(h3 i x t hx ht).1, (h3 i x t hx ht).2.mono (fun _ _ h => ⟨by have := h.1; omega, h.2⟩)⟩⟩

theorem catchP_idle (p q s : Addr) (w : World) : CallsD Try.prog 59 #[.pointer (some p), .pointer (some q), .pointer (some s)] .returning w fun e u' w' => e = .returned (.tuple #[]) ∧ u' = .returning ∧ w' = w := by
  refine callsD_of_wpS Try.func59 rfl fun c₀ cs hu => ?_
  apply wpS_seq
  apply wpS_region
  generalize hQ : Exit.thenS _ _ = Q0
  simp [wpOpsS, go_sem, recoverD, hu, Try.ntmps59, Array.replicate]
  subst hQ
  refine wpS_of_wp ?_
  go_wp2
  cases c₀
  simp_all [bodyPostS, results, Try.results59]

theorem catchP_fail (k b6 b7 b8 : Nat) (x6 : Value) (x7 x8 : Int) (w w0 : World) (B : Nat) (h6 : w.heap[b6]? = some (.cells #[x6] 38 (0, 0))) (h7 : w.heap[b7]? = some (.cells #[.int .i64 x7] 3 (0, 0))) (h8 : w.heap[b8]? = some (.cells #[.int .i64 x8] 26 (0, 0))) (hne : b6 ≠ b7 ∧ b6 ≠ b8 ∧ b7 ≠ b8) (hB : B ≤ b6 ∧ B ≤ b7 ∧ B ≤ b8) (hw : Below B w0 w) :
    CallsD Try.prog 59 #[.pointer (some ⟨b6, 0, none⟩), .pointer (some ⟨b7, 0, none⟩), .pointer (some ⟨b8, 0, none⟩)] (.panicking (failP k)) w fun e u' w' => e = .returned (.tuple #[]) ∧ u' = .panicking [{ v := failV k, recovered := true }] ∧ w'.cell? ⟨b6, 0, none⟩ = some (.slice none 0 0) ∧ w'.cell? ⟨b7, 0, none⟩ = some (.int .i64 0) ∧ w'.cell? ⟨b8, 0, none⟩ = some (.int .i64 (k : Int)) ∧ Below B w0 w' := by
  have c6 : w.cell? ⟨b6, 0, none⟩ = some x6 := by rw [cell_of_row _ _ _ _ _ _ h6]; rfl
  have c7 : w.cell? ⟨b7, 0, none⟩ = some (.int .i64 x7) := by rw [cell_of_row _ _ _ _ _ _ h7]; rfl
  have c8 : w.cell? ⟨b8, 0, none⟩ = some (.int .i64 x8) := by rw [cell_of_row _ _ _ _ _ _ h8]; rfl
  have f6 := frozen_of_row _ _ 0 _ _ h6
  have f7 := frozen_of_row _ _ 0 _ _ h7
  have f8 := frozen_of_row _ _ 0 _ _ h8
  have l6 := (Array.getElem?_eq_some_iff.1 h6).1
  have l7 := (Array.getElem?_eq_some_iff.1 h7).1
  have l8 := (Array.getElem?_eq_some_iff.1 h8).1
  obtain ⟨n1, n2, n3⟩ := hne
  have n1' := n1.symm
  have n2' := n2.symm
  have n3' := n3.symm
  have H6 := Lib.hid h6
  have H7 := Lib.hid h7
  have H8 := Lib.hid h8
  clear h6 h7 h8
  unfold failP
  refine callsD_of_wpS Try.func59 rfl fun c₀ cs hu => ?_
  apply wpS_seq
  apply wpS_region
  generalize hQ : Exit.thenS _ _ = Q0
  simp [wpOpsS, go_sem, recoverD, hu, Try.ntmps59, Array.replicate]
  subst hQ
  refine wpS_of_wp ?_
  unfold failV
  have hta := run_assert (.agg #[.int .i64 (k : Int)])
  go_wp2
  refine ⟨rfl, _, rfl, _, results_none rfl _ _ _, rfl, rfl, ?_, ?_, ?_, ?_⟩
  · go_simp
  · go_simp
  · have r1 : ((w.setCell ⟨b6, 0, none⟩ (.slice none 0 0)).setCell ⟨b7, 0, none⟩ (.int .i64 0)).heap[b8]? = some (.cells #[.int .i64 x8] 26 (0, 0)) := by
      rw [heap_setCell_other _ _ _ _ n3', heap_setCell_other _ _ _ _ n2']
      exact H8.out
    have r2 : (((w.setCell ⟨b6, 0, none⟩ (.slice none 0 0)).setCell ⟨b7, 0, none⟩ (.int .i64 0)).setCell ⟨b8, 0, none⟩ (.int .i64 9)).heap[b8]? = some (.cells #[.int .i64 9] 26 (0, 0)) := heap_setCell_same _ b8 0 _ _ _ r1
    have r3 : ((((w.setCell ⟨b6, 0, none⟩ (.slice none 0 0)).setCell ⟨b7, 0, none⟩ (.int .i64 0)).setCell ⟨b8, 0, none⟩ (.int .i64 9)).setCell ⟨b8, 0, none⟩ (.int .i64 (k : Int))).heap[b8]? = some (.cells #[.int .i64 (k : Int)] 26 (0, 0)) := heap_setCell_same _ b8 0 _ _ _ r2
    have r4 := cell_of_row _ _ 0 _ _ _ r3
    go_simp
  · exact Below.alloc (Below.setCell (p := ⟨b8, 0, none⟩) (Below.setCell (p := ⟨b8, 0, none⟩) (Below.setCell (p := ⟨b7, 0, none⟩) (Below.setCell (p := ⟨b6, 0, none⟩) hw hB.1 _) hB.2.1 _) hB.2.2 _) hB.2.2 _) (by simp; omega) _

set_option maxHeartbeats 2000000 in
theorem readP_any (A : Option Addr) (n c : Nat) (k : Int) (L : List UInt8) (S : Nat → Prop) (w : World) (hb : Bytes S w (.slice A n c) L) (hn : n ≤ 100000000) :
    Calls Try.prog 43 #[.slice A n c, .int .i64 k, .func (.func 44) #[] #[]] w fun e w' => RdOut (rdAt rdPgs L k) (.slice none 0 0) (fun a w' v => ∃ A c, v = .slice A a.length c ∧ PgsOwn w.heap.size w' v a) e w' ∧ Below w.heap.size w w' := by
  have hmf : ∀ (fn : Fn) (first cap : Array Value) (w : World), (Instr.makeFunc fn first cap).run Try.prog w = .ok (.func fn first cap) w := fun _ _ _ _ => rfl
  have hag : ∀ w : World, (isAgg 3).run Try.prog w = .ok false w := fun w => by simp [isAgg, run_underlying Try.underlying3]
  have hae : ∀ w : World, (isAgg 26).run Try.prog w = .ok false w := fun w => by simp [isAgg, run_underlying Try.underlying26]
  have hap : ∀ w : World, (isAgg 38).run Try.prog w = .ok false w := fun w => by simp [isAgg, run_underlying Try.underlying38]
  have hln := hb.len
  obtain ⟨W, hW, hbW, hsW, r6, r7, r8⟩ := boxes3 w (.cells #[.slice none 0 0] 38) (.cells #[.int .i64 0] 3) (.cells #[.int .i64 0] 26)
  by_cases hk : k < 0 ∨ (L.length : Int) < k
  · have hcat := catchP_fail 3 w.heap.size (w.heap.size + 1) (w.heap.size + 1 + 1) _ _ _ W w w.heap.size r6 r7 r8 ⟨by omega, by omega, by omega⟩ ⟨by omega, by omega, by omega⟩ hbW
    have Hcat := Lib.hid hcat
    clear hcat r6 r7 r8
    have hfin : rdAt rdPgs L k = .error 3 := if_pos hk
    rw [hfin]
    by_cases h0 : k < 0
    · have d0 : decide (k < 0) = true := by simpa using h0
      go_enter_defers Try.func43, Try.ntmps43
      go_wp2
      rw [← hW]
      refine leaves_cons (f := 59) (args := #[.pointer (some ⟨w.heap.size, 0, none⟩), .pointer (some ⟨w.heap.size + 1, 0, none⟩), .pointer (some ⟨w.heap.size + 1 + 1, 0, none⟩)]) (by simp) (by simp [go_sem]) ?_
      refine Hcat.out.mono ?_
      rintro e u' w'' ⟨rfl, rfl, g6, g7, g8, hbb⟩
      refine leaves_ccc rfl (results_ccc rfl rfl rfl rfl (run_ld1 (hap _) g6) (run_ld1 (hag _) g7) (run_ld1 (hae _) g8)) ?_
      exact ⟨rfl, hbb⟩
    · have d0 : decide (k < 0) = false := by simpa using h0
      have d1 : decide ((n : Int) < k) = true := by simp; omega
      go_enter_defers Try.func43, Try.ntmps43
      go_wp2
      rw [← hW]
      refine leaves_cons (f := 59) (args := #[.pointer (some ⟨w.heap.size, 0, none⟩), .pointer (some ⟨w.heap.size + 1, 0, none⟩), .pointer (some ⟨w.heap.size + 1 + 1, 0, none⟩)]) (by simp) (by simp [go_sem]) ?_
      refine Hcat.out.mono ?_
      rintro e u' w'' ⟨rfl, rfl, g6, g7, g8, hbb⟩
      refine leaves_ccc rfl (results_ccc rfl rfl rfl rfl (run_ld1 (hap _) g6) (run_ld1 (hag _) g7) (run_ld1 (hae _) g8)) ?_
      exact ⟨rfl, hbb⟩
  · obtain ⟨p, rfl⟩ := Int.eq_ofNat_of_zero_le (show 0 ≤ k by omega)
    have hp : p ≤ n := by omega
    have hfin : rdAt rdPgs L (p : Int) = rdPgs L p := (if_neg hk).trans (by rw [Int.toNat_natCast])
    rw [hfin]
    clear hfin hk
    have d0 : decide ((p : Int) < 0) = false := by simp
    have d1 : decide ((n : Int) < (p : Int)) = false := by simp; omega
    have d2 : decide (n < p) = false := by simp; omega
    obtain ⟨W2, hW2⟩ : ∃ W2, W2 = W.alloc (.cells #[.slice A n c, .int .i64 (p : Int)] 93) := ⟨_, rfl⟩
    have hb2 : Below W.heap.size W W2 := by rw [hW2]; exact (Below.refl _ _).alloc (Nat.le_refl _) _
    have r9 : W2.heap[W.heap.size]? = some (.cells #[.slice A n c, .int .i64 (p : Int)] 93 (0, 0)) := by rw [hW2]; exact heap_alloc_new _ _
    have hRd : Rdr w.heap.size W2 W.heap.size L p := by
      have h1 := hln.1
      subst h1
      exact ⟨by omega, A, c, r9, (hb.mono (fun _ h _ => h)).ext (Below.ext hbW hb2), by omega, by omega⟩
    go_enter_defers Try.func43, Try.ntmps43
    go_wp2_with fail
    rw [← hW, ← hsW, ← hW2]
    refine (rpages_any w.heap.size W.heap.size p L W2 hRd).mono ?_
    intro e w3 h3
    have s2 := hb2.size
    have hs3 : w.heap.size + 1 + 1 < W.heap.size := by omega
    clear hsW hW hW2
    have hlt9 : W.heap.size < W2.heap.size := hRd.lt
    unfold Reads at h3
    cases hx : rdPgs L p with
    | error x =>
      rw [hx] at h3
      obtain ⟨rfl, hg3⟩ := h3
      have k6 := (hg3.block w.heap.size (by omega) (by simp; omega)).trans ((hb2.block _ (by omega)).trans r6)
      have k7 := (hg3.block (w.heap.size + 1) (by omega) (by simp; omega)).trans ((hb2.block _ (by omega)).trans r7)
      have k8 := (hg3.block (w.heap.size + 1 + 1) (by omega) (by simp; omega)).trans ((hb2.block _ (by omega)).trans r8)
      have hcat := catchP_fail x w.heap.size (w.heap.size + 1) (w.heap.size + 1 + 1) _ _ _ w3 w w.heap.size k6 k7 k8 ⟨by omega, by omega, by omega⟩ ⟨by omega, by omega, by omega⟩ (Below.grow (Below.ext hbW hb2) hg3 (by omega))
      have Hcat := Lib.hid hcat
      clear hcat r6 r7 r8 k6 k7 k8 hRd r9
      go_wp2
      refine leaves_cons (f := 59) (args := #[.pointer (some ⟨w.heap.size, 0, none⟩), .pointer (some ⟨w.heap.size + 1, 0, none⟩), .pointer (some ⟨w.heap.size + 1 + 1, 0, none⟩)]) (by simp [failP]) (by simp [go_sem]) ?_
      refine Hcat.out.mono ?_
      rintro e u' w'' ⟨rfl, rfl, g6, g7, g8, hbb⟩
      refine leaves_ccc rfl (results_ccc rfl rfl rfl rfl (run_ld1 (hap _) g6) (run_ld1 (hag _) g7) (run_ld1 (hae _) g8)) ?_
      rw [hx]
      exact ⟨rfl, hbb⟩
    | ok vq =>
      obtain ⟨v, q⟩ := vq
      rw [hx] at h3
      obtain ⟨⟨_, rfl, Av, cv, rfl, hO⟩, hR3, hg3⟩ := h3
      have k6 := (hg3.block w.heap.size (by omega) (by simp; omega)).trans ((hb2.block _ (by omega)).trans r6)
      have k7 := (hg3.block (w.heap.size + 1) (by omega) (by simp; omega)).trans ((hb2.block _ (by omega)).trans r7)
      have k8 := (hg3.block (w.heap.size + 1 + 1) (by omega) (by simp; omega)).trans ((hb2.block _ (by omega)).trans r8)
      have c6 : w3.cell? ⟨w.heap.size, 0, none⟩ = some (.slice none 0 0) := by rw [cell_of_row _ _ _ _ _ _ k6]; rfl
      have c7 : w3.cell? ⟨w.heap.size + 1, 0, none⟩ = some (.int .i64 0) := by rw [cell_of_row _ _ _ _ _ _ k7]; rfl
      have c8 : w3.cell? ⟨w.heap.size + 1 + 1, 0, none⟩ = some (.int .i64 0) := by rw [cell_of_row _ _ _ _ _ _ k8]; rfl
      have f6 := frozen_of_row _ _ 0 _ _ k6
      have f7 := frozen_of_row _ _ 0 _ _ k7
      have f8 := frozen_of_row _ _ 0 _ _ k8
      have b3 := Below.grow (Below.ext hbW hb2) hg3 (by omega)
      have c9 : w3.cell? ⟨W.heap.size, 1, none⟩ = some (.int .i64 (q : Int)) := by
        obtain ⟨_, A', c', h1, _⟩ := hR3
        rw [cell_of_row _ _ _ _ _ _ h1]; rfl
      clear r6 r7 r8 k6 k7 k8 hRd r9
      have n9 : W.heap.size ≠ w.heap.size := by omega
      go_wp2_with fail
      have e6 : (w3.setCell ⟨w.heap.size, 0, none⟩ (.slice Av v.length cv)).cell? ⟨w.heap.size, 0, none⟩ = some (.slice Av v.length cv) := by go_simp
      have e9 : (w3.setCell ⟨w.heap.size, 0, none⟩ (.slice Av v.length cv)).cell? ⟨W.heap.size, 1, none⟩ = some (.int .i64 (q : Int)) := by go_simp
      have f6' : (w3.setCell ⟨w.heap.size, 0, none⟩ (.slice Av v.length cv)).frozen? ⟨w.heap.size, 0, none⟩ = false := by go_simp
      have bS := b3.setCell (p := ⟨w.heap.size, 0, none⟩) (Nat.le_refl _) (.slice Av v.length cv)
      have e7 : (w3.setCell ⟨w.heap.size, 0, none⟩ (.slice Av v.length cv)).cell? ⟨w.heap.size + 1, 0, none⟩ = some (.int .i64 0) := by go_simp
      have e8 : (w3.setCell ⟨w.heap.size, 0, none⟩ (.slice Av v.length cv)).cell? ⟨w.heap.size + 1 + 1, 0, none⟩ = some (.int .i64 0) := by go_simp
      have f7' : (w3.setCell ⟨w.heap.size, 0, none⟩ (.slice Av v.length cv)).frozen? ⟨w.heap.size + 1, 0, none⟩ = false := by go_simp
      have f8' : (w3.setCell ⟨w.heap.size, 0, none⟩ (.slice Av v.length cv)).frozen? ⟨w.heap.size + 1 + 1, 0, none⟩ = false := by go_simp
      clear c6 c7 c8 f6 f7 f8 c9 b3
      have hO := hO.kept (grown_set (j := 0) (v := .slice Av v.length cv) ⟨rfl, rfl, rfl, Nat.le_refl _, fun _ _ _ => rfl⟩ : w3.grownBy (w3.setCell ⟨w.heap.size, 0, none⟩ (.slice Av v.length cv)) (some w.heap.size)) (by omega)
      generalize w3.setCell ⟨w.heap.size, 0, none⟩ (.slice Av v.length cv) = W4 at *
      refine wp_region_lexL (fun w' => w'.cell? ⟨w.heap.size, 0, none⟩ = some (.slice Av v.length cv) ∧ w'.cell? ⟨W.heap.size, 1, none⟩ = some (.int .i64 (q : Int))) (by kernel_rfl) (by kernel_rfl) ⟨e6, e9⟩ ?_
      repeat (first | (refine lexL_q0 rfl ?_; go_big_quiet_step (fail); refine wpQuiet_nil ?_) | (refine lexL_skip0 rfl rfl ?_; simp only [Act.put, List.setIfInBounds_toArray, List.set_cons_succ, List.set_cons_zero]))
      refine lexL_ld (⟨w.heap.size, 0, none⟩) (.slice Av v.length cv) rfl rfl rfl (fun w' hw' => run_ld1 (hap _) hw'.1) ?_
      simp only [Act.put, List.setIfInBounds_toArray, List.set_cons_succ, List.set_cons_zero]
      repeat (first | (refine lexL_q0 rfl ?_; go_big_quiet_step (fail); refine wpQuiet_nil ?_) | (refine lexL_skip0 rfl rfl ?_; simp only [Act.put, List.setIfInBounds_toArray, List.set_cons_succ, List.set_cons_zero]))
      refine lexL_ld (⟨W.heap.size, 1, none⟩) (.int .i64 (q : Int)) rfl rfl rfl (fun w' hw' => run_ld1 (hag _) hw'.2) ?_
      simp only [Act.put, List.setIfInBounds_toArray, List.set_cons_succ, List.set_cons_zero]
      repeat (first | (refine lexL_q0 rfl ?_; go_big_quiet_step (fail); refine wpQuiet_nil ?_) | (refine lexL_skip0 rfl rfl ?_; simp only [Act.put, List.setIfInBounds_toArray, List.set_cons_succ, List.set_cons_zero]))
      refine lexL_e rfl ?_
      go_wp2_with fail
      go_wp2_with fail
      refine lexL_go (⟨by go_simp, by go_simp⟩) ?_
      repeat (first | (refine lexL_q0 rfl ?_; go_big_quiet_step (fail); refine wpQuiet_nil ?_) | (refine lexL_skip0 rfl rfl ?_; simp only [Act.put, List.setIfInBounds_toArray, List.set_cons_succ, List.set_cons_zero]))
      refine lexL_e rfl ?_
      go_wp2_with fail
      go_wp2_with fail
      refine lexL_go (⟨by go_simp, by go_simp⟩) ?_
      repeat (first | (refine lexL_q0 rfl ?_; go_big_quiet_step (fail); refine wpQuiet_nil ?_) | (refine lexL_skip0 rfl rfl ?_; simp only [Act.put, List.setIfInBounds_toArray, List.set_cons_succ, List.set_cons_zero]))
      refine lexL_e rfl ?_
      go_wp2_with fail
      go_wp2_with fail
      refine lexL_go (⟨by go_simp, by go_simp⟩) ?_
      repeat (first | (refine lexL_q0 rfl ?_; go_big_quiet_step (fail); refine wpQuiet_nil ?_) | (refine lexL_skip0 rfl rfl ?_; simp only [Act.put, List.setIfInBounds_toArray, List.set_cons_succ, List.set_cons_zero]))
      refine lexL_nil ?_
      go_wp2_with fail
      have g6 : (((W4.setCell ⟨w.heap.size, 0, none⟩ (.slice Av v.length cv)).setCell ⟨w.heap.size + 1, 0, none⟩ (.int .i64 (q : Int))).setCell ⟨w.heap.size + 1 + 1, 0, none⟩ (.int .i64 0)).drew.cell? ⟨w.heap.size, 0, none⟩ = some (.slice Av v.length cv) := by go_simp
      have g7 : (((W4.setCell ⟨w.heap.size, 0, none⟩ (.slice Av v.length cv)).setCell ⟨w.heap.size + 1, 0, none⟩ (.int .i64 (q : Int))).setCell ⟨w.heap.size + 1 + 1, 0, none⟩ (.int .i64 0)).drew.cell? ⟨w.heap.size + 1, 0, none⟩ = some (.int .i64 (q : Int)) := by go_simp
      have g8 : (((W4.setCell ⟨w.heap.size, 0, none⟩ (.slice Av v.length cv)).setCell ⟨w.heap.size + 1, 0, none⟩ (.int .i64 (q : Int))).setCell ⟨w.heap.size + 1 + 1, 0, none⟩ (.int .i64 0)).drew.cell? ⟨w.heap.size + 1 + 1, 0, none⟩ = some (.int .i64 0) := by go_simp
      have b7 := (((bS.setCell (p := ⟨w.heap.size, 0, none⟩) (Nat.le_refl _) (.slice Av v.length cv)).setCell (p := ⟨w.heap.size + 1, 0, none⟩) (show _ ≤ w.heap.size + 1 by omega) (.int .i64 (q : Int))).setCell (p := ⟨w.heap.size + 1 + 1, 0, none⟩) (show _ ≤ w.heap.size + 1 + 1 by omega) (.int .i64 0)).drew
      have vg0 : W4.grownBy (W4.setCell ⟨w.heap.size, 0, none⟩ (.slice Av v.length cv)) (some w.heap.size) := grown_set ⟨rfl, rfl, rfl, Nat.le_refl _, fun _ _ _ => rfl⟩
      have vg1 : (W4.setCell ⟨w.heap.size, 0, none⟩ (.slice Av v.length cv)).grownBy ((W4.setCell ⟨w.heap.size, 0, none⟩ (.slice Av v.length cv)).setCell ⟨w.heap.size + 1, 0, none⟩ (.int .i64 (q : Int))) (some (w.heap.size + 1)) := grown_set ⟨rfl, rfl, rfl, Nat.le_refl _, fun _ _ _ => rfl⟩
      have vg2 : ((W4.setCell ⟨w.heap.size, 0, none⟩ (.slice Av v.length cv)).setCell ⟨w.heap.size + 1, 0, none⟩ (.int .i64 (q : Int))).grownBy (((W4.setCell ⟨w.heap.size, 0, none⟩ (.slice Av v.length cv)).setCell ⟨w.heap.size + 1, 0, none⟩ (.int .i64 (q : Int))).setCell ⟨w.heap.size + 1 + 1, 0, none⟩ (.int .i64 0)) (some (w.heap.size + 1 + 1)) := grown_set ⟨rfl, rfl, rfl, Nat.le_refl _, fun _ _ _ => rfl⟩
      have hO := (((hO.kept vg0 (by omega)).kept vg1 (by omega)).kept vg2 (by omega)).dr
      clear vg0 vg1 vg2
      generalize (((W4.setCell ⟨w.heap.size, 0, none⟩ (.slice Av v.length cv)).setCell ⟨w.heap.size + 1, 0, none⟩ (.int .i64 (q : Int))).setCell ⟨w.heap.size + 1 + 1, 0, none⟩ (.int .i64 0)).drew = W7 at *
      refine leaves_cons (f := 59) (args := #[.pointer (some ⟨w.heap.size, 0, none⟩), .pointer (some ⟨w.heap.size + 1, 0, none⟩), .pointer (some ⟨w.heap.size + 1 + 1, 0, none⟩)]) (by simp) (by simp [go_sem]) ?_
      refine (catchP_idle _ _ _ W7).mono ?_
      rintro e u' w'' ⟨rfl, rfl, rfl⟩
      refine leaves_ccc rfl (results_ccc rfl rfl rfl rfl (run_ld1 (hap _) g6) (run_ld1 (hag _) g7) (run_ld1 (hae _) g8)) ?_
      refine ⟨?_, b7⟩
      rw [hx]
      exact ⟨_, rfl, Av, cv, rfl, hO.weak (by omega)⟩

theorem codecPages_any (A : Option Addr) (n c : Nat) (k : Int) (L : List UInt8) (S : Nat → Prop) (w : World) (hb : Bytes S w (.slice A n c) L) (hn : n ≤ 100000000) :
    Calls Try.prog 24 #[.slice A n c, .int .i64 k] w fun e w' => RdOut (rdAt rdPgs L k) (.slice none 0 0) (fun a w' v => ∃ A c, v = .slice A a.length c ∧ PgsOwn w.heap.size w' v a) e w' ∧ Below w.heap.size w w' := by
  go_enter Try.func24, Try.ntmps24
  go_wp2_with fail
  refine (readP_any A n c k L S w hb hn).mono ?_
  rintro e w1 ⟨h1, hb1⟩
  unfold RdOut at h1
  cases hx : rdAt rdPgs L k with
  | error x =>
    rw [hx] at h1
    subst h1
    go_wp2
    refine bodyPost_ret (results_tmp3 rfl _ _ _) rfl ?_
    rw [hx]
    exact ⟨rfl, hb1⟩
  | ok vq =>
    obtain ⟨v, q⟩ := vq
    rw [hx] at h1
    obtain ⟨u, rfl, hV⟩ := h1
    go_wp2
    refine bodyPost_ret (results_tmp3 rfl _ _ _) rfl ?_
    rw [hx]
    exact ⟨⟨_, rfl, hV⟩, hb1⟩

end Go.Proofs.Ytgjjfjibfleonaa
