/-
  The frames of determinants: plain, and in memory.
-/
import Derived.Test.YtjcfnpmgklliiaaCodecD
import Derived.Test.YtjcfnpmgklliiaaScan
import Derived.Test.YtjcfnpmgklliiaaDiskB
import Derived.Test.YtjcfnpmgklliiaaDraw
import Derived.Deep.Cut
import Derived.Deep.CutRange
import Derived.Deep.CutBlock
namespace Go.Proofs.Ytjcfnpmgklliiaa
open Go.RowKit
set_option maxRecDepth 100000
set_option linter.unusedVariables false
set_option linter.unusedSimpArgs false

/-- a determinant of numbers that fit -/
def DtIn (d : Dt) : Prop := ∀ z ∈ d.l, InR z
def detB (d : Dt) : List UInt8 := encs d.l
theorem detB_len {d : Dt} (h : DtIn d) : (detB d).length ≤ 90 := by
  have := encs_len d.l h
  have h9 : d.l.length = 9 := rfl
  unfold detB
  omega
/-- the frames of determinants -/
def frL (l : List Dt) : List UInt8 := (l.map detB).flatMap sealL
theorem frL_nil : frL [] = [] := rfl
theorem frL_cons (d : Dt) (l : List Dt) : frL (d :: l) = sealL (detB d) ++ frL l := rfl
theorem frL_append (a b : List Dt) : frL (a ++ b) = frL a ++ frL b := by simp [frL]
theorem frL_len : ∀ (l : List Dt), (∀ d ∈ l, DtIn d) → (frL l).length ≤ 98 * l.length
  | [], _ => by simp [frL]
  | d :: l, h => by
    rw [frL_cons, List.length_append, sealL_length, List.length_cons]
    have h1 := detB_len (h d (by simp))
    have h2 := frL_len l (fun x hx => h x (by simp [hx]))
    omega
theorem frL_snoc {l : List Dt} {k : Nat} {d : Dt} (h : l[k]? = some d) : frL (l.take (k + 1)) = frL (l.take k) ++ sealL (detB d) := by
  rw [List.take_add_one, h, frL_append]
  simp [frL]
theorem encU_pos (u : Nat) : 1 ≤ (encU u).length := by
  by_cases h : u < 128
  · rw [encU_lt h]; simp
  · rw [encU_ge (by omega)]; simp
theorem detB_ge (d : Dt) : 9 ≤ (detB d).length := by
  unfold detB Dt.l Ev.l encs encI
  simp only [List.cons_append, List.nil_append, List.flatMap_cons, List.flatMap_nil, List.length_append, List.length_nil]
  have h1 := encU_pos (zz d.proc)
  have h2 := encU_pos (zz d.index)
  have h3 := encU_pos (zz d.ev.k0)
  have h4 := encU_pos (zz d.ev.k1)
  have h5 := encU_pos (zz d.ev.k2)
  have h6 := encU_pos (zz d.ev.k3)
  have h7 := encU_pos (zz d.ev.k4)
  have h8 := encU_pos (zz d.ev.k5)
  have h9 := encU_pos (zz d.ev.k6)
  omega
theorem frL_ge : ∀ (l : List Dt), 17 * l.length ≤ (frL l).length
  | [] => by simp [frL]
  | d :: l => by
    rw [frL_cons, List.length_append, sealL_length, List.length_cons]
    have h1 := detB_ge d
    have h2 := frL_ge l
    omega
theorem encDt_one (d : Dt) : ∀ u ∈ encDt d, u.oneCell' = true := by
  intro u hu
  simp [encDt] at hu
  rcases hu with h | h | h | h | h | h | h | h | h <;> subst h <;> rfl
theorem infoDt : (Try.prog.info? 38).map (fun i => (i.zero, i.size, i.bytes)) = some (some (.agg #[.int .i64 0, .int .i64 0, .int .i64 0, .int .i64 0, .int .i64 0, .int .i64 0, .int .i64 0, .int .i64 0, .int .i64 0]), 9, 72) := by kernel_rfl
theorem newD (w : World) (cs : Array Value) (T : TypeId) : ∃ W, W = w.alloc (.cells cs T) ∧ Below w.heap.size w W ∧ W.heap.size = w.heap.size + 1 ∧ W.heap[w.heap.size]? = some (.cells cs T (0, 0)) :=
  ⟨_, rfl, (Below.refl _ _).alloc (Nat.le_refl _) _, by simp, heap_alloc_new _ _⟩

set_option maxHeartbeats 2000000 in
theorem samedets_eq (A1 A2 : Option Addr) (n c1 c2 : Nat) (l : List Dt) (S1 S2 : Nat → Prop) (w : World) (h1 : Recs encDt S1 w (.slice A1 n c1) l) (h2 : Recs encDt S2 w (.slice A2 n c2) l) :
    Calls Try.prog 22 #[.slice A1 n c1, .slice A2 n c2] w fun e w' => e = .returned (.bool true) ∧ Below w.heap.size w w' := by
  have hl1 := h1.len
  go_enter Try.func22, Try.ntmps22
  go_wp2
  go_loopw [5] (fun a wr => ∃ k : Nat, a = .int .i64 k ∧ k ≤ n ∧ Below w.heap.size w wr) (fun a _ => n - (intOf a).toNat)
  case atStart => exact ⟨0, rfl, by omega, Below.refl _ _⟩
  case round =>
    obtain ⟨k, rfl, hk, hbr⟩ := hrel
    by_cases hlt : k < n
    · obtain ⟨b1, o1, x1, rfl, _, hb1, hx1, hc1⟩ := (h1.ext hbr).at_ encDt_len (j := k) (by omega) (by omega)
      obtain ⟨b2, o2, x2, rfl, _, hb2, hx2, hc2⟩ := (h2.ext hbr).at_ encDt_len (j := k) (by omega) (by omega)
      obtain rfl : x1 = x2 := by rw [hx1] at hx2; cases hx2; rfl
      have p0 : wr.cell? ⟨b1, o1 + k * 9, none⟩ = some (.int .i64 x1.proc) := hc1 0 _ rfl
      have q0 : wr.cell? ⟨b2, o2 + k * 9, none⟩ = some (.int .i64 x1.proc) := hc2 0 _ rfl
      have p1 : wr.cell? ⟨b1, o1 + k * 9 + 1, none⟩ = some (.int .i64 x1.index) := hc1 1 _ rfl
      have q1 : wr.cell? ⟨b2, o2 + k * 9 + 1, none⟩ = some (.int .i64 x1.index) := hc2 1 _ rfl
      have p2 : wr.cell? ⟨b1, o1 + k * 9 + 2, none⟩ = some (.int .i64 x1.ev.k0) := hc1 2 _ rfl
      have q2 : wr.cell? ⟨b2, o2 + k * 9 + 2, none⟩ = some (.int .i64 x1.ev.k0) := hc2 2 _ rfl
      have p3 : wr.cell? ⟨b1, o1 + k * 9 + 3, none⟩ = some (.int .i64 x1.ev.k1) := hc1 3 _ rfl
      have q3 : wr.cell? ⟨b2, o2 + k * 9 + 3, none⟩ = some (.int .i64 x1.ev.k1) := hc2 3 _ rfl
      have p4 : wr.cell? ⟨b1, o1 + k * 9 + 4, none⟩ = some (.int .i64 x1.ev.k2) := hc1 4 _ rfl
      have q4 : wr.cell? ⟨b2, o2 + k * 9 + 4, none⟩ = some (.int .i64 x1.ev.k2) := hc2 4 _ rfl
      have p5 : wr.cell? ⟨b1, o1 + k * 9 + 5, none⟩ = some (.int .i64 x1.ev.k3) := hc1 5 _ rfl
      have q5 : wr.cell? ⟨b2, o2 + k * 9 + 5, none⟩ = some (.int .i64 x1.ev.k3) := hc2 5 _ rfl
      have p6 : wr.cell? ⟨b1, o1 + k * 9 + 6, none⟩ = some (.int .i64 x1.ev.k4) := hc1 6 _ rfl
      have q6 : wr.cell? ⟨b2, o2 + k * 9 + 6, none⟩ = some (.int .i64 x1.ev.k4) := hc2 6 _ rfl
      have p7 : wr.cell? ⟨b1, o1 + k * 9 + 7, none⟩ = some (.int .i64 x1.ev.k5) := hc1 7 _ rfl
      have q7 : wr.cell? ⟨b2, o2 + k * 9 + 7, none⟩ = some (.int .i64 x1.ev.k5) := hc2 7 _ rfl
      have p8 : wr.cell? ⟨b1, o1 + k * 9 + 8, none⟩ = some (.int .i64 x1.ev.k6) := hc1 8 _ rfl
      have q8 : wr.cell? ⟨b2, o2 + k * 9 + 8, none⟩ = some (.int .i64 x1.ev.k6) := hc2 8 _ rfl
      clear hx1 hx2 hc1 hc2
      go_wp2_with fail
      refine wp_region_lex (fun _ => True) (by kernel_rfl) (by kernel_rfl) trivial ?_
      repeat (first | (refine lex_q rfl ⟨default, trivial⟩ ?_; go_big_quiet_step (fail); refine wpQuiet_nil ?_) | (refine lex_skip rfl rfl trivial ?_; simp only [Act.put, List.setIfInBounds_toArray, List.set_cons_succ, List.set_cons_zero]) | (refine lex_e rfl ?_; go_wp2_with fail; refine lex_go trivial ?_))
      refine lex_nil ?_
      go_wp2_with fail
      go_wp2
      go_roundw
      case rel => exact ⟨k + 1, by go_num, by omega, hbr.drew⟩
      case measure => simp [intOf]; omega
    · obtain rfl : k = n := by omega
      go_wp2
      go_ret
      exact ⟨rfl, hbr⟩

set_option maxHeartbeats 2000000 in
theorem same27_eq (A1 A2 : Option Addr) (n c1 c2 : Nat) (l : List Dt) (S1 S2 : Nat → Prop) (w : World) (h1 : Recs encDt S1 w (.slice A1 n c1) l) (h2 : Recs encDt S2 w (.slice A2 n c2) l) :
    Calls Try.prog 41 #[.slice A1 n c1, .slice A2 n c2] w fun e w' => e = .returned (.bool true) ∧ Below w.heap.size w w' := by
  have hl1 := h1.len
  go_enter Try.func41, Try.ntmps41
  go_wp2
  go_loopw [5] (fun a wr => ∃ k : Nat, a = .int .i64 k ∧ k ≤ n ∧ Below w.heap.size w wr) (fun a _ => n - (intOf a).toNat)
  case atStart => exact ⟨0, rfl, by omega, Below.refl _ _⟩
  case round =>
    obtain ⟨k, rfl, hk, hbr⟩ := hrel
    by_cases hlt : k < n
    · obtain ⟨b1, o1, x1, rfl, _, hb1, hx1, hc1⟩ := (h1.ext hbr).at_ encDt_len (j := k) (by omega) (by omega)
      obtain ⟨b2, o2, x2, rfl, _, hb2, hx2, hc2⟩ := (h2.ext hbr).at_ encDt_len (j := k) (by omega) (by omega)
      obtain rfl : x1 = x2 := by rw [hx1] at hx2; cases hx2; rfl
      have p0 : wr.cell? ⟨b1, o1 + k * 9, none⟩ = some (.int .i64 x1.proc) := hc1 0 _ rfl
      have q0 : wr.cell? ⟨b2, o2 + k * 9, none⟩ = some (.int .i64 x1.proc) := hc2 0 _ rfl
      have p1 : wr.cell? ⟨b1, o1 + k * 9 + 1, none⟩ = some (.int .i64 x1.index) := hc1 1 _ rfl
      have q1 : wr.cell? ⟨b2, o2 + k * 9 + 1, none⟩ = some (.int .i64 x1.index) := hc2 1 _ rfl
      have p2 : wr.cell? ⟨b1, o1 + k * 9 + 2, none⟩ = some (.int .i64 x1.ev.k0) := hc1 2 _ rfl
      have q2 : wr.cell? ⟨b2, o2 + k * 9 + 2, none⟩ = some (.int .i64 x1.ev.k0) := hc2 2 _ rfl
      have p3 : wr.cell? ⟨b1, o1 + k * 9 + 3, none⟩ = some (.int .i64 x1.ev.k1) := hc1 3 _ rfl
      have q3 : wr.cell? ⟨b2, o2 + k * 9 + 3, none⟩ = some (.int .i64 x1.ev.k1) := hc2 3 _ rfl
      have p4 : wr.cell? ⟨b1, o1 + k * 9 + 4, none⟩ = some (.int .i64 x1.ev.k2) := hc1 4 _ rfl
      have q4 : wr.cell? ⟨b2, o2 + k * 9 + 4, none⟩ = some (.int .i64 x1.ev.k2) := hc2 4 _ rfl
      have p5 : wr.cell? ⟨b1, o1 + k * 9 + 5, none⟩ = some (.int .i64 x1.ev.k3) := hc1 5 _ rfl
      have q5 : wr.cell? ⟨b2, o2 + k * 9 + 5, none⟩ = some (.int .i64 x1.ev.k3) := hc2 5 _ rfl
      have p6 : wr.cell? ⟨b1, o1 + k * 9 + 6, none⟩ = some (.int .i64 x1.ev.k4) := hc1 6 _ rfl
      have q6 : wr.cell? ⟨b2, o2 + k * 9 + 6, none⟩ = some (.int .i64 x1.ev.k4) := hc2 6 _ rfl
      have p7 : wr.cell? ⟨b1, o1 + k * 9 + 7, none⟩ = some (.int .i64 x1.ev.k5) := hc1 7 _ rfl
      have q7 : wr.cell? ⟨b2, o2 + k * 9 + 7, none⟩ = some (.int .i64 x1.ev.k5) := hc2 7 _ rfl
      have p8 : wr.cell? ⟨b1, o1 + k * 9 + 8, none⟩ = some (.int .i64 x1.ev.k6) := hc1 8 _ rfl
      have q8 : wr.cell? ⟨b2, o2 + k * 9 + 8, none⟩ = some (.int .i64 x1.ev.k6) := hc2 8 _ rfl
      clear hx1 hx2 hc1 hc2
      go_wp2_with fail
      refine wp_region_lex (fun _ => True) (by kernel_rfl) (by kernel_rfl) trivial ?_
      repeat (first | (refine lex_q rfl ⟨default, trivial⟩ ?_; go_big_quiet_step (fail); refine wpQuiet_nil ?_) | (refine lex_skip rfl rfl trivial ?_; simp only [Act.put, List.setIfInBounds_toArray, List.set_cons_succ, List.set_cons_zero]) | (refine lex_e rfl ?_; go_wp2_with fail; refine lex_go trivial ?_))
      refine lex_nil ?_
      go_wp2_with fail
      go_wp2
      go_roundw
      case rel => exact ⟨k + 1, by go_num, by omega, hbr.drew⟩
      case measure => simp [intOf]; omega
    · obtain rfl : k = n := by omega
      go_wp2
      go_ret
      exact ⟨rfl, hbr⟩

set_option maxHeartbeats 2000000 in
theorem frames_any (A : Option Addr) (n c : Nat) (l : List Dt) (S : Nat → Prop) (w : World) (h : Recs encDt S w (.slice A n c) l) (hin : ∀ d ∈ l, DtIn d) (hn : n ≤ 100000) :
    Calls Try.prog 62 #[.slice A n c] w fun e w' => ∃ A' c', e = .returned (.slice A' (frL l).length c') ∧ OwnB w' w.heap.size 5 (.slice A' (frL l).length c') (frL l) ∧ Below w.heap.size w w' := by
  have hl1 := h.len
  have HL := Lib.hid hl1.1
  have Hin := Lib.hid hin
  have hc1 := hl1.2
  clear hl1 hin
  go_enter Try.func62, Try.ntmps62
  go_wp2
  go_loopw [3, 5, 6, 7, 10] (fun v _ _ _ i wr => ∃ (k : Nat) (A' : Option Addr) (m c' : Nat), k ≤ n ∧ i = .int .i64 k ∧ v = .slice A' m c' ∧ m ≤ 98 * k ∧ OwnB wr w.heap.size 5 (.slice A' m c') (frL (l.take k)) ∧ Below w.heap.size w wr) (fun v _ _ _ i _ => n - (intOf i).toNat)
  case atStart => exact ⟨0, none, 0, 0, by omega, rfl, rfl, by omega, OwnB.nil_ _ _ _, Below.refl _ _⟩
  case round =>
    obtain ⟨k, A', m, c', hk, rfl, rfl, hm, hown, hbr⟩ := hrel
    by_cases hlt : k < n
    · obtain ⟨b, off, x, rfl, _, hbl, hxk, hc⟩ := (h.ext hbr).at_ encDt_len (j := k) (by have := HL.out; omega) (by omega)
      have hxi : DtIn x := Hin.out x (List.mem_of_getElem? hxk)
      have hdl := detB_len hxi
      have HX := Lib.hid hxk
      have c0 := hc 0 _ rfl
      have c1 := hc 1 _ rfl
      have c2 := hc 2 _ rfl
      have c3 := hc 3 _ rfl
      have c4 := hc 4 _ rfl
      have c5 := hc 5 _ rfl
      have c6 := hc 6 _ rfl
      have c7 := hc 7 _ rfl
      have c8 := hc 8 _ rfl
      rw [Nat.add_zero] at c0
      have hsr := hbr.size
      clear hxk hc
      obtain ⟨W5, hW5, bW5, sW5, rW5⟩ := newD wr #[Value.int .i64 x.proc, Value.int .i64 x.index, Value.int .i64 x.ev.k0, Value.int .i64 x.ev.k1, Value.int .i64 x.ev.k2, Value.int .i64 x.ev.k3, Value.int .i64 x.ev.k4, Value.int .i64 x.ev.k5, Value.int .i64 x.ev.k6] 38
      have R5 := Lib.hid rW5
      rw [hW5] at R5
      clear rW5
      go_wp2_with (first | (refine wpList_store_new rfl 38 _ _ rfl 38 _ #[Value.int .i64 x.proc, Value.int .i64 x.index, Value.int .i64 x.ev.k0, Value.int .i64 x.ev.k1, Value.int .i64 x.ev.k2, Value.int .i64 x.ev.k3, Value.int .i64 x.ev.k4, Value.int .i64 x.ev.k5, Value.int .i64 x.ev.k6] rfl rfl (by kernel_rfl) rfl (by simp [Value.oneCell']) ?_) | (refine wpList_load_row rfl 38 _ rfl _ rfl 38 _ (0,0) _ R5.out Try.underlying38 rfl (by kernel_rfl) ?_))
      rw [← hW5]
      clear hW5 R5
      have hp := putDet_any none 0 0 [] (fun _ => True) W5 (Bytes.nil_ _ _) x hxi (by omega)
      unfold dtV at hp
      refine hp.mono ?_
      rintro e w5 ⟨v5, rfl, hv5, hb5⟩
      rw [List.nil_append] at hv5
      go_wp2_with fail
      refine (seal_any v5 (detB x) _ w5 hv5 (by omega)).mono ?_
      rintro e w6 ⟨v6, rfl, hown6, hb6⟩
      obtain ⟨A6, c6, rfl, _, _, _⟩ := hown6.bytes
      obtain ⟨m6, hm6⟩ : ∃ m6, m6 = (sealL (detB x)).length := ⟨_, rfl⟩
      have hm6' : m6 ≤ 98 := by rw [hm6, sealL_length]; omega
      rw [← hm6] at hown6 ⊢
      have HM := Lib.hid hm6
      clear hm6
      have hb56 := Below.ext (Below.ext bW5 hb5) hb6
      have hs6 := hb56.size
      have hon := Lib.hid hown.len.1
      go_wp2_with (refine wpList_appB (o := ⟨some 22, _, _, _, _, _⟩) _ _ 22 5 w.heap.size (frL (l.take k)) (sealL (detB x)) A6 m6 c6 (.slice A' m c') (m + m6) rfl rfl Try.underlying22 (by kernel_rfl) rfl rfl (hown.ext hb56) hown6.bytes (by rw [hon.out]) (by rw [hon.out]; omega) (by omega) ?_; intro A7 c7 w7 hown7 hgr7 hat7 hc71 hc72)
      go_roundw
      case rel => exact ⟨k + 1, A7, m + m6, c7, by omega, by go_num, rfl, by omega, by rw [frL_snoc HX.out]; exact hown7, (hown.ext hb56).grow hgr7 (Below.ext hbr hb56) (Nat.le_refl _) (by omega)⟩
      case measure => simp [intOf]; omega
    · obtain rfl : k = n := by omega
      rw [List.take_of_length_le (by have := HL.out; omega)] at hown
      have hml := hown.len.1
      subst hml
      go_wp2
      go_ret
      exact ⟨_, _, rfl, hown, hbr⟩

set_option maxHeartbeats 2000000 in
theorem refframes_any (A : Option Addr) (n c : Nat) (l : List Dt) (S : Nat → Prop) (w : World) (h : Recs encDt S w (.slice A n c) l) (hin : ∀ d ∈ l, DtIn d) (hn : n ≤ 100000) :
    Calls Try.prog 15 #[.slice A n c] w fun e w' => ∃ A' c', e = .returned (.slice A' (frL l).length c') ∧ OwnB w' w.heap.size 5 (.slice A' (frL l).length c') (frL l) ∧ Below w.heap.size w w' := by
  have hl1 := h.len
  have HL := Lib.hid hl1.1
  have Hin := Lib.hid hin
  have hc1 := hl1.2
  clear hl1 hin
  go_enter Try.func15, Try.ntmps15
  go_wp2
  go_loopw [3, 4, 5, 6] (fun v i _ _ wr => ∃ (k : Nat) (A' : Option Addr) (m c' : Nat), k ≤ n ∧ i = .int .i64 k ∧ v = .slice A' m c' ∧ m ≤ 98 * k ∧ OwnB wr w.heap.size 5 (.slice A' m c') (frL (l.take k)) ∧ Below w.heap.size w wr) (fun v i _ _ _ => n - (intOf i).toNat)
  case atStart => exact ⟨0, none, 0, 0, by omega, rfl, rfl, by omega, OwnB.nil_ _ _ _, Below.refl _ _⟩
  case round =>
    obtain ⟨k, A', m, c', hk, rfl, rfl, hm, hown, hbr⟩ := hrel
    by_cases hlt : k < n
    · obtain ⟨b, off, x, rfl, _, hbl, hxk, hc⟩ := (h.ext hbr).at_ encDt_len (j := k) (by have := HL.out; omega) (by omega)
      have hxi : DtIn x := Hin.out x (List.mem_of_getElem? hxk)
      have hdl := detB_len hxi
      have HX := Lib.hid hxk
      have c0 := hc 0 _ rfl
      have c1 := hc 1 _ rfl
      have c2 := hc 2 _ rfl
      have c3 := hc 3 _ rfl
      have c4 := hc 4 _ rfl
      have c5 := hc 5 _ rfl
      have c6 := hc 6 _ rfl
      have c7 := hc 7 _ rfl
      have c8 := hc 8 _ rfl
      rw [Nat.add_zero] at c0
      have hsr := hbr.size
      clear hxk hc
      have hp := refputDet_any (.slice none 0 0) [] (fun _ => True) wr (Bytes.nil_ _ _) x hxi (by simp)
      unfold dtV at hp
      have HP := Lib.hid hp
      clear hp
      go_wp2_with fail
      refine HP.out.mono ?_
      rintro e w5 ⟨v5, rfl, hv5, hb5⟩
      rw [List.nil_append] at hv5
      go_wp2_with fail
      refine (refseal_any v5 (detB x) _ w5 hv5 (by omega)).mono ?_
      rintro e w6 ⟨v6, rfl, hown6, hb6⟩
      obtain ⟨A6, c6, rfl, _, _, _⟩ := hown6.bytes
      obtain ⟨m6, hm6⟩ : ∃ m6, m6 = (sealL (detB x)).length := ⟨_, rfl⟩
      have hm6' : m6 ≤ 98 := by rw [hm6, sealL_length]; omega
      rw [← hm6] at hown6 ⊢
      have HM := Lib.hid hm6
      clear hm6
      have hb56 := Below.ext hb5 hb6
      have hs6 := hb56.size
      have hon := Lib.hid hown.len.1
      go_wp2_with (refine wpList_appB (o := ⟨some 24, _, _, _, _, _⟩) _ _ 22 5 w.heap.size (frL (l.take k)) (sealL (detB x)) A6 m6 c6 (.slice A' m c') (m + m6) rfl rfl Try.underlying22 (by kernel_rfl) rfl rfl (hown.ext hb56) hown6.bytes (by rw [hon.out]) (by rw [hon.out]; omega) (by omega) ?_; intro A7 c7 w7 hown7 hgr7 hat7 hc71 hc72)
      go_roundw
      case rel => exact ⟨k + 1, A7, m + m6, c7, by omega, by go_num, rfl, by omega, by rw [frL_snoc HX.out]; exact hown7, (hown.ext hb56).grow hgr7 (Below.ext hbr hb56) (Nat.le_refl _) (by omega)⟩
      case measure => simp [intOf]; omega
    · obtain rfl : k = n := by omega
      rw [List.take_of_length_le (by have := HL.out; omega)] at hown
      have hml := hown.len.1
      subst hml
      go_wp2
      go_ret
      exact ⟨_, _, rfl, hown, hbr⟩

end Go.Proofs.Ytjcfnpmgklliiaa
