/-
  The reference's Find, Channel, Oldest; SameInts; the sanity check.
-/
import Derived.Test.YtfnafdncbbjolaaFind
namespace Go.Proofs.Ytfnafdncbbjolaa
open Go.RowKit Go.Shelf
set_option maxRecDepth 100000
set_option linter.unusedVariables false

set_option maxHeartbeats 4000000 in
theorem reffind_any (v : Value) (ms : List Msg) (S : Nat → Prop) (w : World) (hv : Recs encM S w v ms) (hlen : ms.length ≤ 1000) (fr i x o : Int) :
    Calls Try.prog 12 #[v, .int .i64 fr, .agg #[.int .i64 i, .int .i64 x], .int .i64 o] w fun e w' => e = .returned (.int .i64 (findZ (isF fr i x o) ms)) ∧ Below w.heap.size w w' := by
  have hv' := hv
  obtain ⟨A, c, rfl, _⟩ := hv
  have hb0 : Below w.heap.size w (w.alloc (.cells #[.int .i64 i, .int .i64 x] 24)) := (Below.refl _ w).alloc (Nat.le_refl _) _
  go_enter Try.func12, Try.ntmps12
  go_wp2
  have hd0 : (w.alloc (.cells #[.int .i64 i, .int .i64 x] 24)).cell? ⟨w.heap.size, 0, none⟩ = some (.int .i64 i) := by go_simp
  have hd1 : (w.alloc (.cells #[.int .i64 i, .int .i64 x] 24)).cell? ⟨w.heap.size, 1, none⟩ = some (.int .i64 x) := by go_simp
  generalize w.alloc (.cells #[.int .i64 i, .int .i64 x] 24) = W at *
  have hWs : w.heap.size < W.heap.size := block_lt_of_cell hd0
  go_loopw [9] (fun a wr => ∃ k : Nat, a = .int .i64 k ∧ k ≤ ms.length ∧ (∀ y ∈ ms.take k, isF fr i x o y = false) ∧ Below W.heap.size W wr) (fun a _ => ms.length - (intOf a).toNat)
  case atStart => exact ⟨0, rfl, by omega, by simp, Below.refl _ _⟩
  case round =>
    obtain ⟨k, rfl, hk, hno, hbr⟩ := hrel
    have Hno := Lib.hid hno
    clear hno
    by_cases hlt : k < ms.length
    · obtain ⟨b, off, m, rfl, hblt, hmk, c0, c1, c2, c3, c4, c5, c6, c7, c8⟩ := msg_cells ((hv'.ext hb0).ext hbr) hlt
      have e0 := (hbr.cell (p := ⟨w.heap.size, 0, none⟩) hWs).trans hd0
      have e1 := (hbr.cell (p := ⟨w.heap.size, 1, none⟩) hWs).trans hd1
      have Hmk := Lib.hid hmk
      clear hmk hd0 hd1 c1 c5 c6 c7 c8
      have fin : isF fr i x o m = true → findZ (isF fr i x o) ms = k := fun h => findZ_some Hmk.out h Hno.out
      have nxt : isF fr i x o m = false → ∀ y ∈ ms.take (k + 1), isF fr i x o y = false := fun h => none_succ Hmk.out h Hno.out
      have Hfin := Lib.hid fin
      have Hnxt := Lib.hid nxt
      clear fin nxt
      by_cases q1 : m.f = fr
      · have d1 : (m.f == fr) = true := by simpa using q1
        by_cases q2 : m.i = i
        · have d2 : (m.i == i) = true := by simpa using q2
          by_cases q3 : m.x = x
          · have d3 : (m.x == x) = true := by simpa using q3
            by_cases q4 : m.o = o
            · have d4 : (m.o == o) = true := by simpa using q4
              have HF : Hid (isF fr i x o m = true) := Lib.hid (by simp [isF, d1, d2, d3, d4])
              clear q1 q2 q3 q4
              go_wp2_with fail
              refine wp_region_lex (fun _ => True) (by kernel_rfl) (by kernel_rfl) trivial ?_
              repeat (first | (refine lex_q rfl ⟨default, trivial⟩ ?_; go_big_quiet_step (fail); refine wpQuiet_nil ?_) | (refine lex_skip rfl rfl trivial ?_; simp only [Act.put, List.setIfInBounds_toArray, List.set_cons_succ, List.set_cons_zero]) | (refine lex_e rfl ?_; go_wp2_with fail; refine lex_go trivial ?_))
              refine lex_nil ?_
              go_wp2_with fail
              go_wp2
              go_ret
              exact ⟨ret_int (Hfin.out HF.out).symm, (Below.ext hb0 hbr).drew⟩
            · have d4 : (m.o == o) = false := by simpa using q4
              have HF : Hid (isF fr i x o m = false) := Lib.hid (by simp [isF, d4])
              clear q1 q2 q3 q4
              go_wp2_with fail
              refine wp_region_lex (fun _ => True) (by kernel_rfl) (by kernel_rfl) trivial ?_
              repeat (first | (refine lex_q rfl ⟨default, trivial⟩ ?_; go_big_quiet_step (fail); refine wpQuiet_nil ?_) | (refine lex_skip rfl rfl trivial ?_; simp only [Act.put, List.setIfInBounds_toArray, List.set_cons_succ, List.set_cons_zero]) | (refine lex_e rfl ?_; go_wp2_with fail; refine lex_go trivial ?_))
              refine lex_nil ?_
              go_wp2_with fail
              go_wp2
              go_roundw
              case rel => exact ⟨k + 1, by go_num, by omega, Hnxt.out HF.out, hbr.drew⟩
              case measure => simp [intOf]; omega
          · have d3 : (m.x == x) = false := by simpa using q3
            have HF : Hid (isF fr i x o m = false) := Lib.hid (by simp [isF, d3])
            clear q1 q2 q3
            go_wp2_with fail
            refine wp_region_lex (fun _ => True) (by kernel_rfl) (by kernel_rfl) trivial ?_
            repeat (first | (refine lex_q rfl ⟨default, trivial⟩ ?_; go_big_quiet_step (fail); refine wpQuiet_nil ?_) | (refine lex_skip rfl rfl trivial ?_; simp only [Act.put, List.setIfInBounds_toArray, List.set_cons_succ, List.set_cons_zero]) | (refine lex_e rfl ?_; go_wp2_with fail; refine lex_go trivial ?_))
            refine lex_nil ?_
            go_wp2_with fail
            go_wp2
            go_roundw
            case rel => exact ⟨k + 1, by go_num, by omega, Hnxt.out HF.out, hbr.drew⟩
            case measure => simp [intOf]; omega
        · have d2 : (m.i == i) = false := by simpa using q2
          have HF : Hid (isF fr i x o m = false) := Lib.hid (by simp [isF, d2])
          clear q1 q2
          go_wp2_with fail
          refine wp_region_lex (fun _ => True) (by kernel_rfl) (by kernel_rfl) trivial ?_
          repeat (first | (refine lex_q rfl ⟨default, trivial⟩ ?_; go_big_quiet_step (fail); refine wpQuiet_nil ?_) | (refine lex_skip rfl rfl trivial ?_; simp only [Act.put, List.setIfInBounds_toArray, List.set_cons_succ, List.set_cons_zero]) | (refine lex_e rfl ?_; go_wp2_with fail; refine lex_go trivial ?_))
          refine lex_nil ?_
          go_wp2_with fail
          go_wp2
          go_roundw
          case rel => exact ⟨k + 1, by go_num, by omega, Hnxt.out HF.out, hbr.drew⟩
          case measure => simp [intOf]; omega
      · have d1 : (m.f == fr) = false := by simpa using q1
        have HF : Hid (isF fr i x o m = false) := Lib.hid (by simp [isF, d1])
        clear q1
        go_wp2_with fail
        refine wp_region_lex (fun _ => True) (by kernel_rfl) (by kernel_rfl) trivial ?_
        repeat (first | (refine lex_q rfl ⟨default, trivial⟩ ?_; go_big_quiet_step (fail); refine wpQuiet_nil ?_) | (refine lex_skip rfl rfl trivial ?_; simp only [Act.put, List.setIfInBounds_toArray, List.set_cons_succ, List.set_cons_zero]) | (refine lex_e rfl ?_; go_wp2_with fail; refine lex_go trivial ?_))
        refine lex_nil ?_
        go_wp2_with fail
        go_wp2
        go_roundw
        case rel => exact ⟨k + 1, by go_num, by omega, Hnxt.out HF.out, hbr.drew⟩
        case measure => simp [intOf]; omega
    · obtain rfl : k = ms.length := by omega
      go_wp2
      go_ret
      exact ⟨ret_int (findZ_none Hno.out).symm, Below.ext hb0 hbr⟩

theorem Below.drew' {w w' : World} (h : Below w.heap.size w w') : Below w.heap.size w w'.drew := h.drew

set_option maxHeartbeats 1000000 in
theorem sameints_eq (v1 v2 : Value) (l : List Int) (S1 S2 : Nat → Prop) (w : World) (hv1 : Recs encZ S1 w v1 l) (hv2 : Recs encZ S2 w v2 l) :
    Calls Try.prog 13 #[v1, v2] w fun e w' => e = .returned (.bool true) ∧ Below w.heap.size w w' := by
  have h1 := hv1
  have h2 := hv2
  obtain ⟨A1, c1, rfl, hc1, hm1, _⟩ := hv1
  obtain ⟨A2, c2, rfl, _⟩ := hv2
  unfold maxLen at hm1
  go_enter Try.func13, Try.ntmps13
  go_wp2
  go_loopw [5] (fun a wr => ∃ k : Nat, a = .int .i64 k ∧ k ≤ l.length ∧ Below w.heap.size w wr) (fun a _ => l.length - (intOf a).toNat)
  case atStart => exact ⟨0, rfl, by omega, Below.refl _ _⟩
  case round =>
    obtain ⟨k, rfl, hk, hbr⟩ := hrel
    by_cases hlt : k < l.length
    · obtain ⟨b1, off1, x1, rfl, _, hb1, hx1, hc1⟩ := (h1.ext hbr).at_ encZ_len hlt (by omega)
      obtain ⟨b2, off2, x2, rfl, _, hb2, hx2, hc2⟩ := (h2.ext hbr).at_ encZ_len hlt (by omega)
      obtain rfl : x1 = x2 := by rw [hx1] at hx2; cases hx2; rfl
      have q1 := hc1 0 _ rfl
      have q2 := hc2 0 _ rfl
      rw [Nat.mul_one, Nat.add_zero] at q1 q2
      clear hc1 hc2 hx1 hx2
      go_wp2_with fail
      refine wp_region_lex (fun _ => True) (by kernel_rfl) (by kernel_rfl) trivial ?_
      repeat (first | (refine lex_q rfl ⟨default, trivial⟩ ?_; go_big_quiet_step (fail); refine wpQuiet_nil ?_) | (refine lex_skip rfl rfl trivial ?_; simp only [Act.put, List.setIfInBounds_toArray, List.set_cons_succ, List.set_cons_zero]) | (refine lex_e rfl ?_; go_wp2_with fail; refine lex_go trivial ?_))
      refine lex_nil ?_
      go_wp2_with fail
      go_wp2
      go_roundw
      case rel => exact ⟨k + 1, by go_num, by omega, hbr.drew⟩
      case measure => simp [intOf]; omega
    · obtain rfl : k = l.length := by omega
      go_wp2
      go_ret
      exact ⟨rfl, hbr⟩

set_option maxHeartbeats 1000000 in
theorem has_any (A : Option Addr) (n c : Nat) (k : Int) (w : World) (hn : n ≤ 1000) :
    Calls Try.prog 34 #[.slice A n c, .int .i64 k] w fun e w' => e = .returned (.bool (decide (0 ≤ k ∧ k < n))) ∧ w = w' := by
  by_cases h1 : 0 ≤ k
  · have d1 : decide (0 ≤ k) = true := by simpa using h1
    by_cases h2 : k < n
    · have d2 : decide (k < (n : Int)) = true := by simpa using h2
      go_enter Try.func34, Try.ntmps34
      go_wp2
      go_ret
      exact ⟨ret_bool (by simp [h1, h2]), rfl⟩
    · have d2 : decide (k < (n : Int)) = false := by simpa using h2
      go_enter Try.func34, Try.ntmps34
      go_wp2
      go_ret
      exact ⟨ret_bool (by simp), rfl⟩
  · have d1 : decide (0 ≤ k) = false := by simpa using h1
    go_enter Try.func34, Try.ntmps34
    go_wp2
    go_ret
    exact ⟨ret_bool (by simp), rfl⟩

theorem encZ_one (z : Int) : ∀ u ∈ encZ z, u.oneCell' = true := by
  intro u hu
  simp [encZ] at hu
  subst hu
  rfl

set_option maxHeartbeats 2000000 in
theorem refchannel_any (v : Value) (ms : List Msg) (S : Nat → Prop) (w : World) (hv : Recs encM S w v ms) (hlen : ms.length ≤ 1000) (fr to : Int) :
    Calls Try.prog 15 #[v, .int .i64 fr, .int .i64 to] w fun e w' => ∃ v', e = .returned v' ∧ OwnR encZ 1 w' w.heap.size 3 v' (chZ ms fr to) ∧ Below w.heap.size w w' := by
  have hv' := hv
  obtain ⟨A, c, rfl, _⟩ := hv
  go_enter Try.func15, Try.ntmps15
  go_wp2
  go_loopw [7, 8] (fun o i wr => ∃ (k : Nat) (A' : Option Addr) (c' n' : Nat), i = .int .i64 k ∧ k ≤ ms.length ∧ o = .slice A' n' c' ∧ n' ≤ k ∧ OwnR encZ 1 wr w.heap.size 3 (.slice A' n' c') ((chN ms fr to k).map (fun k : Nat => (k : Int))) ∧ Below w.heap.size w wr) (fun _ i _ => ms.length - (intOf i).toNat)
  case atStart => exact ⟨0, none, 0, 0, rfl, by omega, rfl, by omega, OwnR.nil_ _ _ _, Below.refl _ _⟩
  case round =>
    obtain ⟨k, A', c', n', rfl, hk, rfl, hn', hown, hbr⟩ := hrel
    have hl := hown.len
    have hszr := hbr.size
    by_cases hlt : k < ms.length
    · obtain ⟨b, off, m, rfl, hblt, hmk, q0, q1, _⟩ := msg_cells (hv'.ext hbr) hlt
      have hsn := chN_succ ms fr to k m hmk
      clear hmk
      have next : isCh fr to m = false → chN ms fr to (k + 1) = chN ms fr to k := fun h => by rw [hsn, h]; simp
      have Hnext := Lib.hid next
      clear next
      by_cases e1 : m.f = fr
      · have d1 : (m.f == fr) = true := by simpa using e1
        by_cases e2 : m.t = to
        · have d2 : (m.t == to) = true := by simpa using e2
          have hch : isCh fr to m = true := by unfold isCh; rw [d1, d2]; rfl
          rw [hch, if_pos rfl] at hsn
          have Hsn := Lib.hid hsn
          have hone : Recs encZ (fun _ => True) (wr.alloc (.cells #[.int .i64 (k : Int)] 3)) (.slice (some ⟨wr.heap.size, 0, none⟩) 1 1) [(k : Int)] := ⟨_, 1, rfl, by simp, by simp [maxLen], by
            rw [List.flatMap_singleton]
            exact Cs.lit _ _ _ _ _ trivial rfl⟩
          obtain ⟨hl1, hl2, hl3⟩ := hl
          have Hl1 := Lib.hid hl1
          clear hl1 hsn hch e1 e2
          go_wp2_with (refine wpList_appR (o := ⟨some 34, _, _, _, _, _⟩) encZ_len encZ_one (.int .i64 0) 8 _ _ 29 3 w.heap.size _ [(k : Int)] (some ⟨wr.heap.size, 0, none⟩) 1 1 (.slice A' n' c') (n' + 1) rfl rfl Try.underlying29 infoI rfl (by omega) rfl rfl (hown.ext ((Below.refl _ _).alloc (Nat.le_refl _) _)) hone (by rw [Hl1.out]) (by have := Hl1.out; omega) (by have := Hl1.out; omega) (by simp; omega) ?_; intro A9 c9 w9 hown9 hgr9 hat9 hc91 hc92)
          have hb9 : Below w.heap.size w w9 := (hown.ext ((Below.refl _ _).alloc (Nat.le_refl _) _)).grow hgr9 (hbr.alloc hbr.size _) (Nat.le_refl _) (by simp; omega)
          go_wp2
          go_roundw
          case rel => exact ⟨k + 1, A9, c9, n' + 1, by go_num, by omega, rfl, by omega, by rw [Hsn.out, List.map_append]; exact hown9, hb9⟩
          case measure => simp [intOf]; omega
        · have d2 : (m.t == to) = false := by simpa using e2
          have hch : isCh fr to m = false := by unfold isCh; rw [d1, d2]; rfl
          have Hch := Lib.hid hch
          clear hsn hch e1 e2
          go_wp2
          go_roundw
          case rel => exact ⟨k + 1, A', c', n', by go_num, by omega, rfl, by omega, by rw [Hnext.out Hch.out]; exact hown, hbr⟩
          case measure => simp [intOf]; omega
      · have d1 : (m.f == fr) = false := by simpa using e1
        have hch : isCh fr to m = false := by unfold isCh; rw [d1]; rfl
        have Hch := Lib.hid hch
        clear hsn hch e1
        go_wp2
        go_roundw
        case rel => exact ⟨k + 1, A', c', n', by go_num, by omega, rfl, by omega, by rw [Hnext.out Hch.out]; exact hown, hbr⟩
        case measure => simp [intOf]; omega
    · obtain rfl : k = ms.length := by omega
      go_wp2
      go_ret
      exact ⟨_, rfl, hown, hbr⟩
end Go.Proofs.Ytfnafdncbbjolaa
