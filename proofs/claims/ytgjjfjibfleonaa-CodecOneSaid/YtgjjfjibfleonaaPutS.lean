/-
  PutState of package codec and of the document.
-/
import Derived.Test.YtgjjfjibfleonaaPutD
namespace Go.Proofs.Ytgjjfjibfleonaa
open Go.RowKit
set_option maxRecDepth 100000
set_option linter.unusedVariables false

structure Snd where
  a : Int
  b : Int
  c : Int
  d : Int
deriving DecidableEq, Inhabited
def Snd.l (x : Snd) : List Int := [x.a, x.b, x.c, x.d]
def encSn (x : Snd) : List Value := [.int .i64 x.a, .int .i64 x.b, .int .i64 x.c, .int .i64 x.d]
theorem encSn_len (x : Snd) : (encSn x).length = 4 := rfl
structure Ou where
  a : Int
  b : Int
deriving DecidableEq, Inhabited
def Ou.l (x : Ou) : List Int := [x.a, x.b]
def encOu (x : Ou) : List Value := [.int .i64 x.a, .int .i64 x.b]
theorem encOu_len (x : Ou) : (encOu x).length = 2 := rfl
structure Stt where
  cells : List Int
  evs : List Ev
  sent : List Snd
  outs : List Ou
deriving DecidableEq, Inhabited
def Stt.l (s : Stt) : List Int := [(s.cells.length : Int)] ++ s.cells ++ [(s.evs.length : Int)] ++ s.evs.flatMap Ev.l ++ [(s.sent.length : Int)] ++ s.sent.flatMap Snd.l ++ [(s.outs.length : Int)] ++ s.outs.flatMap Ou.l
structure SttOk (s : Stt) : Prop where
  cells : ∀ z ∈ s.cells, InR z
  evs : ∀ e ∈ s.evs, ∀ z ∈ e.l, InR z
  sent : ∀ e ∈ s.sent, ∀ z ∈ e.l, InR z
  outs : ∀ e ∈ s.outs, ∀ z ∈ e.l, InR z
  small : s.cells.length ≤ 2000000
/-- two orders that come to the same -/
theorem wp_meet {P : Program} {code : Code} {Q : Exit → Act → World → Prop} {a : Act} {w : World} (F : Value → Option Nat → World → Prop) (mk : Value → Act)
    (h1 : code.wp P (fun e a' w' => e = .normal ∧ ∃ x row, F x row w' ∧ a' = mk x) a w) (h2 : ∀ x row w', F x row w' → Q .normal (mk x) w') : code.wp P Q a w :=
  Code.wp_mono (fun e a' w' ⟨he, x, row, hF, ha⟩ => by subst he ha; exact h2 x row w' hF) h1
theorem len1 (z : Nat) (hz : z ≤ 1000000000) : ∀ x ∈ [(z : Int)], InR x := by
  intro x hx
  simp at hx
  subst hx
  exact ⟨by omega, by omega⟩

set_option maxHeartbeats 8000000 in
theorem putState_any (A : Option Addr) (n c : Nat) (l : List UInt8) (S : Nat → Prop) (w : World) (hv : Bytes S w (.slice A n c) l) (s : Stt) (Ac Ae As Ao : Option Addr) (nc cc ne ce ns cs no co : Nat) (hC : Recs encZ (· < w.heap.size) w (.slice Ac nc cc) s.cells) (hE : Recs encEv (· < w.heap.size) w (.slice Ae ne ce) s.evs) (hS : Recs encSn (· < w.heap.size) w (.slice As ns cs) s.sent) (hO : Recs encOu (· < w.heap.size) w (.slice Ao no co) s.outs) (hok : SttOk s) (hlen : n ≤ 1000000) (hne : ne ≤ 400) (hns : ns ≤ 400) (hno : no ≤ 400) :
    Calls Try.prog 20 #[.slice A n c, .agg #[.slice Ac nc cc, .slice Ae ne ce, .slice As ns cs, .slice Ao no co]] w fun r w' => ∃ v', r = .returned v' ∧ Bytes (fun _ => True) w' v' (l ++ encs s.l) ∧ Below w.heap.size w w' := by
  have hl := hv.len
  have HL := Lib.hid hl.1
  have HC := Lib.hid hC.len.1
  have HE := Lib.hid hE.len.1
  have HS := Lib.hid hS.len.1
  have HO := Lib.hid hO.len.1
  have hC2 := hC.len.2
  have hE2 := hE.len.2
  have hS2 := hS.len.2
  have hO2 := hO.len.2
  have HOK := Lib.hid hok
  have hsm : nc ≤ 2000000 := by have := hok.small; have := HC.out; omega
  clear hok
  obtain ⟨W, hW⟩ : ∃ W, W = w.alloc (.cells #[.slice Ac nc cc, .slice Ae ne ce, .slice As ns cs, .slice Ao no co] 43) := ⟨_, rfl⟩
  have haW : Below w.heap.size w W := by rw [hW]; exact (Below.refl _ _).alloc (Nat.le_refl _) _
  have rW : W.heap[w.heap.size]? = some (.cells #[.slice Ac nc cc, .slice Ae ne ce, .slice As ns cs, .slice Ao no co] 43 (0, 0)) := by rw [hW]; exact heap_alloc_new _ _
  have hsW : w.heap.size < W.heap.size := (Array.getElem?_eq_some_iff.1 rW).1
  have RW := Lib.hid rW
  have hCW := (hC.ext haW).mono (S' := (· < W.heap.size)) (fun b _ h => by omega)
  have hEW := (hE.ext haW).mono (S' := (· < W.heap.size)) (fun b _ h => by omega)
  have hSW := (hS.ext haW).mono (S' := (· < W.heap.size)) (fun b _ h => by omega)
  have hOW := (hO.ext haW).mono (S' := (· < W.heap.size)) (fun b _ h => by omega)
  have ha2 : Below W.heap.size W (W.alloc (.cells #[.int .i64 (nc : Int)] 3)).drew := ((Below.refl _ _).alloc (Nat.le_refl _) _).drew
  have hlit := avoid_none (litZ W 3 [(nc : Int)] #[.int .i64 (nc : Int)] 1 rfl rfl (by omega)).drew
  have hput := put_b W (W.alloc (.cells #[.int .i64 (nc : Int)] 3)).drew none (.slice A n n) l ha2 (clip_acc (w0 := W) W.heap.size (hv.ext (Below.ext haW ha2)) (by omega)) _ 1 1 [(nc : Int)] hlit (len1 nc (by omega)) (by have := HL.out; omega)
  have Hput := Lib.hid hput
  clear rW hput hlit hC hE hS hO
  go_enter Try.func20, Try.ntmps20
  go_wp2_with fail
  rw [← hW]
  clear hW
  apply wp_meet (fun v row w' => Acc w' W.heap.size row v (l ++ encs [(nc : Int)]) ∧ Below W.heap.size W w')
  · refine wp_region_two (Below W.heap.size W) [0, 1, 2, 3, 4, 5, 6, 7] [0, 2, 3, 4, 5, 1, 6, 7] 1 5 (by kernel_rfl) (by kernel_rfl) (by kernel_rfl) (by kernel_rfl) (by decide) (by decide) (by decide) (by decide) ((Below.refl _ _).drew) ?_ ?_
    all_goals simp only [opsOf, List.filterMap_cons, List.filterMap_nil, List.getElem?_cons_zero, List.getElem?_cons_succ]
    · repeat (first | (refine lexL_q0 rfl ?_; go_big_quiet_step (fail); refine wpQuiet_nil ?_) | (refine lexL_skip0 rfl rfl ?_; simp only [Act.put, List.setIfInBounds_toArray, List.set_cons_succ, List.set_cons_zero]))
      refine lexL_e rfl ?_
      go_wp2_with fail
      refine (clip_any A n c W.drew hl.2.1 hl.2.2).mono ?_
      rintro r w1 ⟨rfl, rfl⟩
      go_wp2_with fail
      refine lexL_go ((Below.refl _ _).drew) ?_
      repeat (first | (refine lexL_q0 rfl ?_; go_big_quiet_step (fail); refine wpQuiet_nil ?_) | (refine lexL_skip0 rfl rfl ?_; simp only [Act.put, List.setIfInBounds_toArray, List.set_cons_succ, List.set_cons_zero]))
      refine lexL_ld (⟨w.heap.size, 0, none⟩) (.slice Ac nc cc) rfl rfl rfl (fun w' hS => run_ld1 (ag_ints _) (row_cell ((hS.block _ hsW).trans RW.out) 0 _ rfl)) ?_
      simp only [Act.put, List.setIfInBounds_toArray, List.set_cons_succ, List.set_cons_zero]
      repeat (first | (refine lexL_q0 rfl ?_; go_big_quiet_step (fail); refine wpQuiet_nil ?_) | (refine lexL_skip0 rfl rfl ?_; simp only [Act.put, List.setIfInBounds_toArray, List.set_cons_succ, List.set_cons_zero]))
      refine lexL_e rfl ?_
      go_wp2_with fail
      refine lexL_go ha2 ?_
      repeat (first | (refine lexL_q0 rfl ?_; go_big_quiet_step (fail); refine wpQuiet_nil ?_) | (refine lexL_skip0 rfl rfl ?_; simp only [Act.put, List.setIfInBounds_toArray, List.set_cons_succ, List.set_cons_zero]))
      refine lexL_e rfl ?_
      go_wp2_with fail
      refine Hput.out.mono ?_
      rintro r w2 ⟨v2, row2, rfl, hacc2, hb2, _⟩
      go_wp2_with fail
      refine lexL_go (hb2) ?_
      repeat (first | (refine lexL_q0 rfl ?_; go_big_quiet_step (fail); refine wpQuiet_nil ?_) | (refine lexL_skip0 rfl rfl ?_; simp only [Act.put, List.setIfInBounds_toArray, List.set_cons_succ, List.set_cons_zero]))
      refine lexL_nil ?_
      exact ⟨trivial, v2, row2, ⟨hacc2, hb2⟩, rfl⟩
    · repeat (first | (refine lexL_q0 rfl ?_; go_big_quiet_step (fail); refine wpQuiet_nil ?_) | (refine lexL_skip0 rfl rfl ?_; simp only [Act.put, List.setIfInBounds_toArray, List.set_cons_succ, List.set_cons_zero]))
      refine lexL_ld (⟨w.heap.size, 0, none⟩) (.slice Ac nc cc) rfl rfl rfl (fun w' hS => run_ld1 (ag_ints _) (row_cell ((hS.block _ hsW).trans RW.out) 0 _ rfl)) ?_
      simp only [Act.put, List.setIfInBounds_toArray, List.set_cons_succ, List.set_cons_zero]
      repeat (first | (refine lexL_q0 rfl ?_; go_big_quiet_step (fail); refine wpQuiet_nil ?_) | (refine lexL_skip0 rfl rfl ?_; simp only [Act.put, List.setIfInBounds_toArray, List.set_cons_succ, List.set_cons_zero]))
      refine lexL_e rfl ?_
      go_wp2_with fail
      refine lexL_go ha2 ?_
      repeat (first | (refine lexL_q0 rfl ?_; go_big_quiet_step (fail); refine wpQuiet_nil ?_) | (refine lexL_skip0 rfl rfl ?_; simp only [Act.put, List.setIfInBounds_toArray, List.set_cons_succ, List.set_cons_zero]))
      refine lexL_e rfl ?_
      go_wp2_with fail
      refine (clip_any A n c (W.alloc (.cells #[.int .i64 (nc : Int)] 3)).drew hl.2.1 hl.2.2).mono ?_
      rintro r w1 ⟨rfl, rfl⟩
      go_wp2_with fail
      refine lexL_go (ha2) ?_
      repeat (first | (refine lexL_q0 rfl ?_; go_big_quiet_step (fail); refine wpQuiet_nil ?_) | (refine lexL_skip0 rfl rfl ?_; simp only [Act.put, List.setIfInBounds_toArray, List.set_cons_succ, List.set_cons_zero]))
      refine lexL_e rfl ?_
      go_wp2_with fail
      refine Hput.out.mono ?_
      rintro r w2 ⟨v2, row2, rfl, hacc2, hb2, _⟩
      go_wp2_with fail
      refine lexL_go (hb2) ?_
      repeat (first | (refine lexL_q0 rfl ?_; go_big_quiet_step (fail); refine wpQuiet_nil ?_) | (refine lexL_skip0 rfl rfl ?_; simp only [Act.put, List.setIfInBounds_toArray, List.set_cons_succ, List.set_cons_zero]))
      refine lexL_nil ?_
      exact ⟨trivial, v2, row2, ⟨hacc2, hb2⟩, rfl⟩
  intro v2 row2 w2 ⟨hacc2, hb2⟩
  clear Hput ha2
  obtain ⟨l2, hl2⟩ : ∃ l2, l2 = l ++ encs [(nc : Int)] := ⟨_, rfl⟩
  have hL2 : l2.length ≤ n + 10 := by
    have h1 := encs_len _ (len1 nc (by omega))
    have h2 := HL.out
    rw [hl2, List.length_append]
    rw [List.length_singleton] at h1
    omega
  rw [← hl2] at hacc2
  have K2 := Lib.hid hl2
  have q2 : w2.cell? ⟨w.heap.size, 0, none⟩ = some (.slice Ac nc cc) := row_cell ((hb2.block _ hsW).trans RW.out) 0 _ rfl
  have hput := put_b W w2 row2 v2 l2 hb2 hacc2 Ac nc cc s.cells (avoid_acc hacc2 (hCW.ext hb2)) HOK.out.cells (by omega)
  have Hput := Lib.hid hput
  clear hput hl2
  go_wp2_with fail
  refine Hput.out.mono ?_
  rintro r w3 ⟨v3, row3, rfl, hacc3, hb3, _⟩
  obtain ⟨l3, hl3⟩ : ∃ l3, l3 = l2 ++ encs s.cells := ⟨_, rfl⟩
  have hL3 : l3.length ≤ n + 10 + 20000000 := by
    have h1 := encs_len _ HOK.out.cells
    have h2 := HC.out
    rw [hl3, List.length_append]
    omega
  rw [← hl3] at hacc3
  have K3 := Lib.hid hl3
  clear hl3 q2 Hput
  have q3 : w3.cell? ⟨w.heap.size, 1, none⟩ = some (.slice Ae ne ce) := row_cell ((hb3.block _ hsW).trans RW.out) 1 _ rfl
  have ha3 : Below w3.heap.size w3 (w3.alloc (.cells #[.int .i64 (ne : Int)] 3)) := (Below.refl _ _).alloc (Nat.le_refl _) _
  have hlit := (litZ w3 3 [(ne : Int)] #[.int .i64 (ne : Int)] 1 rfl rfl (by omega)).mono (S' := fun b => row3 ≠ some b) (fun b _ h => hacc3.avoid (.inr (by omega)))
  have hput := put_b W _ row3 v3 l3 (Below.ext hb3 ha3) (hacc3.ext ha3) _ 1 1 [(ne : Int)] hlit (len1 ne (by omega)) (by omega)
  have Hput := Lib.hid hput
  clear hput hlit
  go_wp2_with fail
  refine Hput.out.mono ?_
  rintro r w4 ⟨v4, row4, rfl, hacc4, hb4, _⟩
  obtain ⟨l4, hl4⟩ : ∃ l4, l4 = l3 ++ encs [(ne : Int)] := ⟨_, rfl⟩
  have hL4 : l4.length ≤ n + 20000020 := by
    have h1 := encs_len _ (len1 ne (by omega))
    rw [hl4, List.length_append]
    rw [List.length_singleton] at h1
    omega
  rw [← hl4] at hacc4
  have K4 := Lib.hid hl4
  have q4 : w4.cell? ⟨w.heap.size, 1, none⟩ = some (.slice Ae ne ce) := row_cell ((hb4.block _ hsW).trans RW.out) 1 _ rfl
  clear hl4 q3 Hput ha3
  go_wp2
  go_loopw [0, 31] (fun v i wr => ∃ (k : Nat) (row : Option Nat), i = .int .i64 k ∧ k ≤ ne ∧ Acc wr W.heap.size row v (l4 ++ encs ((s.evs.take k).flatMap Ev.l)) ∧ (l4 ++ encs ((s.evs.take k).flatMap Ev.l)).length ≤ n + 20000020 + k * 70 ∧ Below W.heap.size W wr) (fun _ i _ => ne - (intOf i).toNat)
  case atStart => exact ⟨0, row4, rfl, by omega, by simpa [encs] using hacc4, by simpa [encs] using hL4, hb4⟩
  case round =>
    clear hacc4 hb4 q4
    obtain ⟨k, row, rfl, hk, hacc, hll, hbr⟩ := hrel
    by_cases hlt : k < ne
    · obtain ⟨b, off, x, rfl, hbS, hbl, hxk, hc⟩ := (hEW.ext hbr).at_ encEv_len (j := k) (by have := HE.out; omega) (by omega)
      have hxr := HOK.out.evs x (List.mem_of_getElem? hxk)
      have hfl := flat_tk Ev.l s.evs k x hxk
      have c0 := hc 0 _ rfl
      have c1 := hc 1 _ rfl
      have c2 := hc 2 _ rfl
      have c3 := hc 3 _ rfl
      have c4 := hc 4 _ rfl
      have c5 := hc 5 _ rfl
      have c6 := hc 6 _ rfl
      rw [Nat.add_zero] at c0
      obtain ⟨lk, hlk⟩ : ∃ lk, lk = l4 ++ encs ((s.evs.take k).flatMap Ev.l) := ⟨_, rfl⟩
      have htgt : l4 ++ encs ((s.evs.take (k + 1)).flatMap Ev.l) = lk ++ encs x.l := by rw [hfl, hlk, encs_append, List.append_assoc]
      have HTG := Lib.hid htgt
      rw [← hlk] at hacc hll
      have hsz := hbr.size
      clear hxk hfl htgt hlk hc
      obtain ⟨W5, hW5⟩ : ∃ W5, W5 = wr.alloc (.cells #[.int .i64 x.k0, .int .i64 x.k1, .int .i64 x.k2, .int .i64 x.k3, .int .i64 x.k4, .int .i64 x.k5, .int .i64 x.k6] 35) := ⟨_, rfl⟩
      have hb5 : Below wr.heap.size wr W5 := by rw [hW5]; exact (Below.refl _ _).alloc (Nat.le_refl _) _
      have hput := putEvent_b W W5 row _ lk (Below.ext hbr hb5) (hacc.ext hb5) x hxr (by omega)
      unfold evV at hput
      have Hput := Lib.hid hput
      clear hput
      go_wp2_with fail
      rw [← hW5]
      refine Hput.out.mono ?_
      rintro r w6 ⟨v6, row6, rfl, hacc6, hb6⟩
      have hel := encs_len x.l hxr
      rw [← HTG.out] at hacc6
      have hln : (l4 ++ encs ((s.evs.take (k + 1)).flatMap Ev.l)).length ≤ n + 20000020 + (k + 1) * 70 := by
        rw [HTG.out, List.length_append]
        have : x.l.length = 7 := rfl
        omega
      go_wp2
      go_roundw
      case rel => exact ⟨k + 1, row6, by go_num, by omega, hacc6, hln, hb6⟩
      case measure => simp [intOf]; omega
    · obtain rfl : k = ne := by omega
      rw [List.take_of_length_le (by have := HE.out; omega)] at hacc hll
      obtain ⟨l5, hl5⟩ : ∃ l5, l5 = l4 ++ encs (s.evs.flatMap Ev.l) := ⟨_, rfl⟩
      rw [← hl5] at hacc hll
      have K5 := Lib.hid hl5
      have hL5 : l5.length ≤ n + 20028020 := by omega
      clear hl5 hll
      obtain ⟨v5, hv5⟩ : ∃ v5, v5 = u0 := ⟨_, rfl⟩
      obtain ⟨w5, hw5⟩ : ∃ w5, w5 = wr := ⟨_, rfl⟩
      obtain ⟨row5, hr5⟩ : ∃ row5, row5 = row := ⟨_, rfl⟩
      rw [← hr5] at hacc
      clear hr5
      rw [← hw5] at hacc hbr
      rw [← hv5] at hacc
      have hb5 := hbr
      have hacc5 := hacc
      rw [← hw5, ← hv5]
      clear hw5 hv5 hacc hbr
      have q5 : w5.cell? ⟨w.heap.size, 2, none⟩ = some (.slice As ns cs) := row_cell ((hb5.block _ hsW).trans RW.out) 2 _ rfl
      have ha5 : Below w5.heap.size w5 (w5.alloc (.cells #[.int .i64 (ns : Int)] 3)) := (Below.refl _ _).alloc (Nat.le_refl _) _
      have hlit := (litZ w5 3 [(ns : Int)] #[.int .i64 (ns : Int)] 1 rfl rfl (by omega)).mono (S' := fun b => row5 ≠ some b) (fun b _ h => hacc5.avoid (.inr (by omega)))
      have hput := put_b W _ row5 v5 l5 (Below.ext hb5 ha5) (hacc5.ext ha5) _ 1 1 [(ns : Int)] hlit (len1 ns (by omega)) (by omega)
      have Hput := Lib.hid hput
      clear hput hlit
      go_wp2_with fail
      refine Hput.out.mono ?_
      rintro r w6 ⟨v6, row6, rfl, hacc6, hb6, _⟩
      obtain ⟨l6, hl6⟩ : ∃ l6, l6 = l5 ++ encs [(ns : Int)] := ⟨_, rfl⟩
      have hL6 : l6.length ≤ n + 20028030 := by
        have h1 := encs_len _ (len1 ns (by omega))
        rw [hl6, List.length_append]
        rw [List.length_singleton] at h1
        omega
      rw [← hl6] at hacc6
      have K6 := Lib.hid hl6
      have q6 : w6.cell? ⟨w.heap.size, 2, none⟩ = some (.slice As ns cs) := row_cell ((hb6.block _ hsW).trans RW.out) 2 _ rfl
      clear hl6 q5 Hput ha5
      go_wp2
      go_loopw [0, 48] (fun v i wr => ∃ (k : Nat) (row : Option Nat), i = .int .i64 k ∧ k ≤ ns ∧ Acc wr W.heap.size row v (l6 ++ encs ((s.sent.take k).flatMap Snd.l)) ∧ (l6 ++ encs ((s.sent.take k).flatMap Snd.l)).length ≤ n + 20028030 + k * 40 ∧ Below W.heap.size W wr) (fun _ i _ => ns - (intOf i).toNat)
      case atStart => exact ⟨0, row6, rfl, by omega, by simpa [encs] using hacc6, by simpa [encs] using hL6, hb6⟩
      case round =>
        clear hacc6 hb6 q6
        obtain ⟨k, row, rfl, hk, hacc, hll, hbr⟩ := hrel
        by_cases hlt : k < ns
        · obtain ⟨b, off, x, rfl, hbS, hbl, hxk, hc⟩ := (hSW.ext hbr).at_ encSn_len (j := k) (by have := HS.out; omega) (by omega)
          have hxr := HOK.out.sent x (List.mem_of_getElem? hxk)
          have hfl := flat_tk Snd.l s.sent k x hxk
          have c0 := hc 0 _ rfl
          have c1 := hc 1 _ rfl
          have c2 := hc 2 _ rfl
          have c3 := hc 3 _ rfl
          rw [Nat.add_zero] at c0
          obtain ⟨lk, hlk⟩ : ∃ lk, lk = l6 ++ encs ((s.sent.take k).flatMap Snd.l) := ⟨_, rfl⟩
          have htgt : l6 ++ encs ((s.sent.take (k + 1)).flatMap Snd.l) = lk ++ encs x.l := by rw [hfl, hlk, encs_append, List.append_assoc]
          have HTG := Lib.hid htgt
          rw [← hlk] at hacc hll
          have hsz := hbr.size
          clear hxk hfl htgt hlk hc
          obtain ⟨W5, hW5⟩ : ∃ W5, W5 = wr.alloc (.cells #[.int .i64 x.a, .int .i64 x.b, .int .i64 x.c, .int .i64 x.d] 73) := ⟨_, rfl⟩
          have hb5 : Below wr.heap.size wr W5 := by rw [hW5]; exact (Below.refl _ _).alloc (Nat.le_refl _) _
          have hs5 : W5.heap.size = wr.heap.size + 1 := by rw [hW5]; simp
          have ha5 : Below W5.heap.size W5 (W5.alloc (.cells #[.int .i64 x.a, .int .i64 x.b, .int .i64 x.c, .int .i64 x.d] 3)) := (Below.refl _ _).alloc (Nat.le_refl _) _
          have ha6 := Below.ext hb5 ha5
          have hlit := (litZ W5 3 x.l #[.int .i64 x.a, .int .i64 x.b, .int .i64 x.c, .int .i64 x.d] 4 rfl rfl (by omega)).mono (S' := fun b => row ≠ some b) (fun b _ h => hacc.avoid (.inr (by omega)))
          have hput := put_b W _ row _ lk (Below.ext hbr ha6) (hacc.ext ha6) _ 4 4 x.l hlit hxr (by omega)
          rw [hs5] at hput
          have Hput := Lib.hid hput
          clear hput hlit
          go_wp2_with fail
          rw [← hW5]
          refine Hput.out.mono ?_
          rintro r w6 ⟨v6, row6, rfl, hacc6, hb6, _⟩
          have hel := encs_len x.l hxr
          rw [← HTG.out] at hacc6
          have hln : (l6 ++ encs ((s.sent.take (k + 1)).flatMap Snd.l)).length ≤ n + 20028030 + (k + 1) * 40 := by
            rw [HTG.out, List.length_append]
            have : x.l.length = 4 := rfl
            omega
          go_wp2
          go_roundw
          case rel => exact ⟨k + 1, row6, by go_num, by omega, hacc6, hln, hb6⟩
          case measure => simp [intOf]; omega
        · obtain rfl : k = ns := by omega
          rw [List.take_of_length_le (by have := HS.out; omega)] at hacc hll
          obtain ⟨l7, hl7⟩ : ∃ l7, l7 = l6 ++ encs (s.sent.flatMap Snd.l) := ⟨_, rfl⟩
          rw [← hl7] at hacc hll
          have K7 := Lib.hid hl7
          have hL7 : l7.length ≤ n + 20044030 := by omega
          clear hl7 hll
          obtain ⟨v7, hv7⟩ : ∃ v7, v7 = u0 := ⟨_, rfl⟩
          obtain ⟨w7, hw7⟩ : ∃ w7, w7 = wr := ⟨_, rfl⟩
          obtain ⟨row7, hr7⟩ : ∃ row7, row7 = row := ⟨_, rfl⟩
          rw [← hr7] at hacc
          clear hr7
          rw [← hw7] at hacc hbr
          rw [← hv7] at hacc
          have hb7 := hbr
          have hacc7 := hacc
          rw [← hw7, ← hv7]
          clear hw7 hv7 hacc hbr
          have q7 : w7.cell? ⟨w.heap.size, 3, none⟩ = some (.slice Ao no co) := row_cell ((hb7.block _ hsW).trans RW.out) 3 _ rfl
          have ha7 : Below w7.heap.size w7 (w7.alloc (.cells #[.int .i64 (no : Int)] 3)) := (Below.refl _ _).alloc (Nat.le_refl _) _
          have hlit := (litZ w7 3 [(no : Int)] #[.int .i64 (no : Int)] 1 rfl rfl (by omega)).mono (S' := fun b => row7 ≠ some b) (fun b _ h => hacc7.avoid (.inr (by omega)))
          have hput := put_b W _ row7 v7 l7 (Below.ext hb7 ha7) (hacc7.ext ha7) _ 1 1 [(no : Int)] hlit (len1 no (by omega)) (by omega)
          have Hput := Lib.hid hput
          clear hput hlit
          go_wp2_with fail
          refine Hput.out.mono ?_
          rintro r w8 ⟨v8, row8, rfl, hacc8, hb8, _⟩
          obtain ⟨l8, hl8⟩ : ∃ l8, l8 = l7 ++ encs [(no : Int)] := ⟨_, rfl⟩
          have hL8 : l8.length ≤ n + 20044050 := by
            have h1 := encs_len _ (len1 no (by omega))
            rw [hl8, List.length_append]
            rw [List.length_singleton] at h1
            omega
          rw [← hl8] at hacc8
          have K8 := Lib.hid hl8
          have q8 : w8.cell? ⟨w.heap.size, 3, none⟩ = some (.slice Ao no co) := row_cell ((hb8.block _ hsW).trans RW.out) 3 _ rfl
          clear hl8 q7 Hput ha7
          go_wp2
          go_loopw [0, 73] (fun v i wr => ∃ (k : Nat) (row : Option Nat), i = .int .i64 k ∧ k ≤ no ∧ Acc wr W.heap.size row v (l8 ++ encs ((s.outs.take k).flatMap Ou.l)) ∧ (l8 ++ encs ((s.outs.take k).flatMap Ou.l)).length ≤ n + 20044050 + k * 20 ∧ Below W.heap.size W wr) (fun _ i _ => no - (intOf i).toNat)
          case atStart => exact ⟨0, row8, rfl, by omega, by simpa [encs] using hacc8, by simpa [encs] using hL8, hb8⟩
          case round =>
            clear hacc8 hb8 q8
            obtain ⟨k, row, rfl, hk, hacc, hll, hbr⟩ := hrel
            by_cases hlt : k < no
            · obtain ⟨b, off, x, rfl, hbS, hbl, hxk, hc⟩ := (hOW.ext hbr).at_ encOu_len (j := k) (by have := HO.out; omega) (by omega)
              have hxr := HOK.out.outs x (List.mem_of_getElem? hxk)
              have hfl := flat_tk Ou.l s.outs k x hxk
              have c0 := hc 0 _ rfl
              have c1 := hc 1 _ rfl
              rw [Nat.add_zero] at c0
              obtain ⟨lk, hlk⟩ : ∃ lk, lk = l8 ++ encs ((s.outs.take k).flatMap Ou.l) := ⟨_, rfl⟩
              have htgt : l8 ++ encs ((s.outs.take (k + 1)).flatMap Ou.l) = lk ++ encs x.l := by rw [hfl, hlk, encs_append, List.append_assoc]
              have HTG := Lib.hid htgt
              rw [← hlk] at hacc hll
              have hsz := hbr.size
              clear hxk hfl htgt hlk hc
              obtain ⟨W5, hW5⟩ : ∃ W5, W5 = wr.alloc (.cells #[.int .i64 x.a, .int .i64 x.b] 75) := ⟨_, rfl⟩
              have hb5 : Below wr.heap.size wr W5 := by rw [hW5]; exact (Below.refl _ _).alloc (Nat.le_refl _) _
              have hs5 : W5.heap.size = wr.heap.size + 1 := by rw [hW5]; simp
              have ha5 : Below W5.heap.size W5 (W5.alloc (.cells #[.int .i64 x.a, .int .i64 x.b] 3)) := (Below.refl _ _).alloc (Nat.le_refl _) _
              have ha6 := Below.ext hb5 ha5
              have hlit := (litZ W5 3 x.l #[.int .i64 x.a, .int .i64 x.b] 2 rfl rfl (by omega)).mono (S' := fun b => row ≠ some b) (fun b _ h => hacc.avoid (.inr (by omega)))
              have hput := put_b W _ row _ lk (Below.ext hbr ha6) (hacc.ext ha6) _ 2 2 x.l hlit hxr (by omega)
              rw [hs5] at hput
              have Hput := Lib.hid hput
              clear hput hlit
              go_wp2_with fail
              rw [← hW5]
              refine Hput.out.mono ?_
              rintro r w6 ⟨v6, row6, rfl, hacc6, hb6, _⟩
              have hel := encs_len x.l hxr
              rw [← HTG.out] at hacc6
              have hln : (l8 ++ encs ((s.outs.take (k + 1)).flatMap Ou.l)).length ≤ n + 20044050 + (k + 1) * 20 := by
                rw [HTG.out, List.length_append]
                have : x.l.length = 2 := rfl
                omega
              go_wp2
              go_roundw
              case rel => exact ⟨k + 1, row6, by go_num, by omega, hacc6, hln, hb6⟩
              case measure => simp [intOf]; omega
            · obtain rfl : k = no := by omega
              rw [List.take_of_length_le (by have := HO.out; omega)] at hacc hll
              obtain ⟨l9, hl9⟩ : ∃ l9, l9 = l8 ++ encs (s.outs.flatMap Ou.l) := ⟨_, rfl⟩
              rw [← hl9] at hacc hll
              have K9 := Lib.hid hl9
              have hL9 : l9.length ≤ n + 20052050 := by omega
              clear hl9 hll
              obtain ⟨v9, hv9⟩ : ∃ v9, v9 = u0 := ⟨_, rfl⟩
              obtain ⟨w9, hw9⟩ : ∃ w9, w9 = wr := ⟨_, rfl⟩
              obtain ⟨row9, hr9⟩ : ∃ row9, row9 = row := ⟨_, rfl⟩
              rw [← hr9] at hacc
              clear hr9
              rw [← hw9] at hacc hbr
              rw [← hv9] at hacc
              have hb9 := hbr
              have hacc9 := hacc
              rw [← hw9, ← hv9]
              clear hw9 hv9 hacc hbr
              have hfin : l ++ encs s.l = l9 := by
                unfold Stt.l
                rw [K9.out, K8.out, K7.out, K6.out, K5.out, K4.out, K3.out, K2.out, HC.out, HE.out, HS.out, HO.out]
                simp only [encs_append, List.append_assoc]
              go_wp2
              go_ret
              exact ⟨_, rfl, by rw [hfin]; exact hacc9.bytes, Below.ext haW hb9⟩
end Go.Proofs.Ytgjjfjibfleonaa
