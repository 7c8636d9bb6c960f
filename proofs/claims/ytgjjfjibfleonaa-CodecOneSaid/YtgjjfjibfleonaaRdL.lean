/-
  codec.list: lists of numbers, events, sends and outputs.
-/
import Derived.Test.YtgjjfjibfleonaaRdE
namespace Go.Proofs.Ytgjjfjibfleonaa
open Go.RowKit
set_option maxRecDepth 100000
set_option linter.unusedVariables false

theorem grown_nw {a b c : World} {g : Nat} {row : Option Nat} (h : a.grownBy b (some g)) (k : b.grownBy c row) (hr : ∀ m, row = some m → a.heap.size ≤ m ∨ m = g) : a.grownBy c (some g) :=
  ⟨k.os.trans h.os, k.tape.trans h.tape, k.output.trans h.output, Nat.le_trans h.size k.size, fun i hi hne => (k.block i (Nat.lt_of_lt_of_le hi h.size) (fun e => by
    rcases hr i e.symm with h' | h'
    · omega
    · exact hne (by rw [h']))).trans (h.block i hi hne)⟩
theorem grown_bl {a b : World} (h : Below a.heap.size a b) (row : Option Nat) : a.grownBy b row := ⟨h.os, h.tape, h.output, h.size, fun i hi _ => h.block i hi⟩
theorem OwnR.kept_lt {α : Type} {enc : α → List Value} {k : Nat} {w w' : World} {base g : Nat} {e : TypeId} {v : Value} {l : List α} (h : OwnR enc k w base e v l) (hg : w.grownBy w' (some g)) (hlt : g < base) : OwnR enc k w' base e v l := by
  refine h.kept hg ?_
  rcases Option.eq_none_or_eq_some v.ownBlock with h0 | ⟨m, h0⟩
  · exact .inl h0
  · refine .inr (fun e => ?_)
    rw [h0] at e
    cases e
    have := (World.ownsRow.lt h _ h0).1
    omega
theorem encEv_one (x : Ev) : ∀ u ∈ encEv x, u.oneCell' = true := by
  intro u hu
  simp [encEv] at hu
  rcases hu with rfl | rfl | rfl | rfl | rfl | rfl | rfl <;> rfl
theorem encSn_one (x : Snd) : ∀ u ∈ encSn x, u.oneCell' = true := by
  intro u hu
  simp [encSn] at hu
  rcases hu with rfl | rfl | rfl | rfl <;> rfl
theorem encOu_one (x : Ou) : ∀ u ∈ encOu x, u.oneCell' = true := by
  intro u hu
  simp [encOu] at hu
  rcases hu with rfl | rfl <;> rfl
theorem infoI_ : (Try.prog.info? 3).map (fun i => (i.zero, i.size, i.bytes)) = some (some (.int .i64 0), 1, 8) := by kernel_rfl
set_option maxHeartbeats 2000000 in
theorem listI_any (B r p : Nat) (L : List UInt8) (w : World) (h : Rdr B w r L p) :
    Calls Try.prog 63 #[.pointer (some ⟨r, 0, none⟩), .func (.func 27) #[] #[]] w fun e w' => Reads B r L w (rdList (rdInt L) L p) (fun a w' v => ∃ A c, v = .slice A a.length c ∧ OwnR encZ 1 w' w.heap.size 3 v a) e w' := by
  have hlt := h.lt
  go_enter Try.func63, Try.ntmps63
  go_wp2_with fail
  refine (rint_any B r p L w h).mono ?_
  intro e w1 h1
  unfold Reads at h1
  cases hx : rdInt L p with
  | error k =>
    rw [hx] at h1
    obtain ⟨rfl, hg⟩ := h1
    have hfin : rdList (rdInt L) L p = .error k := by unfold rdList; rw [bnd_er hx]
    go_wp2
    refine ⟨rfl, ?_⟩
    unfold Reads
    rw [hfin]
    exact ⟨rfl, hg⟩
  | ok vq =>
    obtain ⟨n, q⟩ := vq
    rw [hx] at h1
    obtain ⟨⟨_, rfl, rfl⟩, hR1, hg1⟩ := h1
    have HR := Lib.hid hR1
    obtain ⟨hB, A, c, hrow, hby, hq, hL⟩ := hR1
    have h0 : w1.cell? ⟨r, 0, none⟩ = some (.slice A L.length c) := by rw [cell_of_row _ _ _ _ _ _ hrow]; rfl
    have h1 : w1.cell? ⟨r, 1, none⟩ = some (.int .i64 (q : Int)) := by rw [cell_of_row _ _ _ _ _ _ hrow]; rfl
    clear hrow hby h
    by_cases hneg : n < 0
    · have d0 : decide (n < 0) = true := by simp; omega
      have hfin : rdList (rdInt L) L p = .error 9 := rdList_bad hx (.inl hneg)
      go_wp2_with fail
      refine wp_region_lex (fun _ => True) (by kernel_rfl) (by kernel_rfl) trivial ?_
      repeat (first | (refine lex_q rfl ⟨default, trivial⟩ ?_; go_big_quiet_step (fail); refine wpQuiet_nil ?_) | (refine lex_skip rfl rfl trivial ?_; simp only [Act.put, List.setIfInBounds_toArray, List.set_cons_succ, List.set_cons_zero]) | (refine lex_e rfl ?_; go_wp2_with fail; refine lex_go trivial ?_))
      refine lex_nil ?_
      go_wp2_with fail
      go_wp2
      refine ⟨rfl, ?_⟩
      unfold Reads
      rw [hfin]
      exact ⟨rfl, grown_drew hg1⟩
    · have d0 : decide (n < 0) = false := by simp; omega
      by_cases hbig : (L.length : Int) - (q : Int) < n
      · have d1 : decide ((L.length : Int) - (q : Int) < n) = true := by simp; omega
        have hfin : rdList (rdInt L) L p = .error 9 := rdList_bad hx (.inr hbig)
        go_wp2_with fail
        refine wp_region_lex (fun _ => True) (by kernel_rfl) (by kernel_rfl) trivial ?_
        repeat (refine lex_q rfl ⟨default, trivial⟩ ?_; go_big_quiet_step (fail); refine wpQuiet_nil ?_)
        refine lex_e rfl ?_
        go_wp2_with fail
        refine lex_go trivial ?_
        repeat (refine lex_q rfl ⟨default, trivial⟩ ?_; go_big_quiet_step (fail); refine wpQuiet_nil ?_)
        refine lex_e rfl ?_
        go_wp2_with fail
        refine lex_go trivial ?_
        repeat (refine lex_q rfl ⟨default, trivial⟩ ?_; go_big_quiet_step (fail); refine wpQuiet_nil ?_)
        refine lex_nil ?_
        go_wp2_with fail
        go_wp2
        refine ⟨rfl, ?_⟩
        unfold Reads
        rw [hfin]
        exact ⟨rfl, grown_drew hg1⟩
      · have d1 : decide ((L.length : Int) - (q : Int) < n) = false := by simp; omega
        obtain ⟨m, rfl⟩ : ∃ m : Nat, n = (m : Int) := ⟨n.toNat, by omega⟩
        have hstart : rdList (rdInt L) L p = _ := rdList_start hx hbig
        have HS := Lib.hid hstart
        have hm : m ≤ 1000000000 := by omega
        clear hstart
        go_wp2_with fail
        refine wp_region_lex (fun _ => True) (by kernel_rfl) (by kernel_rfl) trivial ?_
        repeat (refine lex_q rfl ⟨default, trivial⟩ ?_; go_big_quiet_step (fail); refine wpQuiet_nil ?_)
        refine lex_e rfl ?_
        go_wp2_with fail
        refine lex_go trivial ?_
        repeat (refine lex_q rfl ⟨default, trivial⟩ ?_; go_big_quiet_step (fail); refine wpQuiet_nil ?_)
        refine lex_e rfl ?_
        go_wp2_with fail
        refine lex_go trivial ?_
        repeat (refine lex_q rfl ⟨default, trivial⟩ ?_; go_big_quiet_step (fail); refine wpQuiet_nil ?_)
        refine lex_nil ?_
        go_wp2_with fail
        go_wp2
        go_loopw [6, 28] (fun v i wr => ∃ (k q' : Nat) (A' : Option Addr) (c' : Nat) (acc : List (Int)), i = .int .i64 k ∧ v = .slice A' k c' ∧ k ≤ m ∧ OwnR encZ 1 wr w.heap.size 3 (.slice A' k c') acc ∧ Rdr B wr r L q' ∧ w.grownBy wr (some r) ∧ rdList (rdInt L) L p = bnd (rdRep (rdInt L) (m - k) q') (fun l q'' => .ok (acc ++ l, q''))) (fun _ i _ => m - (intOf i).toNat)
        case atStart => exact ⟨0, q, none, 0, [], rfl, rfl, by omega, OwnR.nil_ _ _ _, HR.out.drew, grown_drew hg1, HS.out⟩
        case round =>
          clear HR hg1 HS h0 h1
          obtain ⟨k, q', A', c', acc, rfl, rfl, hk, hown, hR, hg, heq⟩ := hrel
          have HE := Lib.hid heq
          clear heq
          by_cases hlt2 : k < m
          · have dk : decide ((k : Int) < (m : Int)) = true := by simp; omega
            have dk' : decide (k < m) = true := by simp; omega
            obtain ⟨j, hj⟩ : ∃ j, m - k = j + 1 := ⟨m - k - 1, by omega⟩
            go_wp2_with fail
            refine (rint_any B r q' L wr hR).mono ?_
            intro e w2 h2
            unfold Reads at h2
            cases hy : rdInt L q' with
            | error x =>
              rw [hy] at h2
              obtain ⟨rfl, hg2⟩ := h2
              have hfin : rdList (rdInt L) L p = .error x := by rw [HE.out, hj]; exact rdRep_err hy
              go_wp2
              refine ⟨rfl, ?_⟩
              unfold Reads
              rw [hfin]
              exact ⟨rfl, grown_tr hg hg2⟩
            | ok aq =>
              obtain ⟨a, q2⟩ := aq
              rw [hy] at h2
              obtain ⟨⟨_, rfl, hv⟩, hR2, hg2⟩ := h2
              subst hv
              have hstep : rdList (rdInt L) L p = bnd (rdRep (rdInt L) (m - (k + 1)) q2) (fun l q'' => .ok ((acc ++ [a]) ++ l, q'')) := by rw [HE.out, hj, rdRep_step hy, show m - (k + 1) = j by omega]
              have HST := Lib.hid hstep
              have hown2 := hown.kept_lt hg2 hlt
              have hl2 := hown2.len
              have Hl2 := Lib.hid hl2.1
              have sz := hg.size
              have sz2 := hg2.size
              have ha : Below w2.heap.size w2 (w2.alloc (.cells #[.int .i64 a] 3)) := (Below.refl _ _).alloc (Nat.le_refl _) _
              have hone : Recs encZ (fun _ => True) (w2.alloc (.cells #[.int .i64 a] 3)) (.slice (some ⟨w2.heap.size, 0, none⟩) 1 1) [a] := ⟨_, 1, rfl, by simp, by simp [maxLen], Cs.lit _ _ _ _ _ trivial rfl⟩
              clear hstep hown
              go_wp2_with (refine wpList_appR (o := ⟨some 35, _, _, _, _, _⟩) encZ_len encZ_one (.int .i64 0) 8 _ _ 25 3 w.heap.size acc [a] (some ⟨w2.heap.size, 0, none⟩) 1 1 (.slice A' k c') (k + 1) rfl rfl Try.underlying25 infoI_ rfl (by omega) rfl rfl (hown2.ext ha) hone (by rw [Hl2.out]) (by have := Hl2.out; omega) (by have := Hl2.out; omega) (by simp; omega) ?_; intro A9 c9 w9 hown9 hgr9 hat9 hc91 hc92)
              have hrow9 : ∀ b, (Value.slice A' k c').ownBlock = some b → w.heap.size ≤ b := fun b e => (World.ownsRow.lt hown2 _ e).1
              have hR9 := (hR2.ext ha).grown hgr9 (fun b hb => by have := hrow9 b hb; omega)
              have hG9 := grown_nw (grown_tr (grown_tr hg hg2) (grown_bl ha (some r))) hgr9 (fun b hb => .inl (hrow9 b hb))
              refine ⟨⟨k + 1, q2, A9, c9, acc ++ [a], by congr 1, rfl, by omega, hown9, hR9, hG9, HST.out⟩, by simp [intOf]; omega⟩
          · obtain rfl : k = m := by omega
            have dk : decide ((k : Int) < (k : Int)) = false := by simp
            have hfin : rdList (rdInt L) L p = .ok (acc, q') := by rw [HE.out, Nat.sub_self]; show Except.ok (acc ++ [], q') = _; rw [List.append_nil]
            go_wp2
            go_ret
            unfold Reads
            rw [hfin]
            exact ⟨⟨_, rfl, A', c', by show Value.slice A' k c' = _; rw [hown.len.1], hown⟩, hR, hg⟩

theorem infoE_ : (Try.prog.info? 35).map (fun i => (i.zero, i.size, i.bytes)) = some (some (.agg #[.int .i64 0, .int .i64 0, .int .i64 0, .int .i64 0, .int .i64 0, .int .i64 0, .int .i64 0]), 7, 56) := by kernel_rfl
set_option maxHeartbeats 2000000 in
theorem listE_any (B r p : Nat) (L : List UInt8) (w : World) (h : Rdr B w r L p) :
    Calls Try.prog 64 #[.pointer (some ⟨r, 0, none⟩), .func (.func 42) #[] #[]] w fun e w' => Reads B r L w (rdList (rdEv L) L p) (fun a w' v => ∃ A c, v = .slice A a.length c ∧ OwnR encEv 7 w' w.heap.size 35 v a) e w' := by
  have hlt := h.lt
  go_enter Try.func64, Try.ntmps64
  go_wp2_with fail
  refine (rint_any B r p L w h).mono ?_
  intro e w1 h1
  unfold Reads at h1
  cases hx : rdInt L p with
  | error k =>
    rw [hx] at h1
    obtain ⟨rfl, hg⟩ := h1
    have hfin : rdList (rdEv L) L p = .error k := by unfold rdList; rw [bnd_er hx]
    go_wp2
    refine ⟨rfl, ?_⟩
    unfold Reads
    rw [hfin]
    exact ⟨rfl, hg⟩
  | ok vq =>
    obtain ⟨n, q⟩ := vq
    rw [hx] at h1
    obtain ⟨⟨_, rfl, rfl⟩, hR1, hg1⟩ := h1
    have HR := Lib.hid hR1
    obtain ⟨hB, A, c, hrow, hby, hq, hL⟩ := hR1
    have h0 : w1.cell? ⟨r, 0, none⟩ = some (.slice A L.length c) := by rw [cell_of_row _ _ _ _ _ _ hrow]; rfl
    have h1 : w1.cell? ⟨r, 1, none⟩ = some (.int .i64 (q : Int)) := by rw [cell_of_row _ _ _ _ _ _ hrow]; rfl
    clear hrow hby h
    by_cases hneg : n < 0
    · have d0 : decide (n < 0) = true := by simp; omega
      have hfin : rdList (rdEv L) L p = .error 9 := rdList_bad hx (.inl hneg)
      go_wp2_with fail
      refine wp_region_lex (fun _ => True) (by kernel_rfl) (by kernel_rfl) trivial ?_
      repeat (first | (refine lex_q rfl ⟨default, trivial⟩ ?_; go_big_quiet_step (fail); refine wpQuiet_nil ?_) | (refine lex_skip rfl rfl trivial ?_; simp only [Act.put, List.setIfInBounds_toArray, List.set_cons_succ, List.set_cons_zero]) | (refine lex_e rfl ?_; go_wp2_with fail; refine lex_go trivial ?_))
      refine lex_nil ?_
      go_wp2_with fail
      go_wp2
      refine ⟨rfl, ?_⟩
      unfold Reads
      rw [hfin]
      exact ⟨rfl, grown_drew hg1⟩
    · have d0 : decide (n < 0) = false := by simp; omega
      by_cases hbig : (L.length : Int) - (q : Int) < n
      · have d1 : decide ((L.length : Int) - (q : Int) < n) = true := by simp; omega
        have hfin : rdList (rdEv L) L p = .error 9 := rdList_bad hx (.inr hbig)
        go_wp2_with fail
        refine wp_region_lex (fun _ => True) (by kernel_rfl) (by kernel_rfl) trivial ?_
        repeat (refine lex_q rfl ⟨default, trivial⟩ ?_; go_big_quiet_step (fail); refine wpQuiet_nil ?_)
        refine lex_e rfl ?_
        go_wp2_with fail
        refine lex_go trivial ?_
        repeat (refine lex_q rfl ⟨default, trivial⟩ ?_; go_big_quiet_step (fail); refine wpQuiet_nil ?_)
        refine lex_e rfl ?_
        go_wp2_with fail
        refine lex_go trivial ?_
        repeat (refine lex_q rfl ⟨default, trivial⟩ ?_; go_big_quiet_step (fail); refine wpQuiet_nil ?_)
        refine lex_nil ?_
        go_wp2_with fail
        go_wp2
        refine ⟨rfl, ?_⟩
        unfold Reads
        rw [hfin]
        exact ⟨rfl, grown_drew hg1⟩
      · have d1 : decide ((L.length : Int) - (q : Int) < n) = false := by simp; omega
        obtain ⟨m, rfl⟩ : ∃ m : Nat, n = (m : Int) := ⟨n.toNat, by omega⟩
        have hstart : rdList (rdEv L) L p = _ := rdList_start hx hbig
        have HS := Lib.hid hstart
        have hm : m ≤ 1000000000 := by omega
        clear hstart
        go_wp2_with fail
        refine wp_region_lex (fun _ => True) (by kernel_rfl) (by kernel_rfl) trivial ?_
        repeat (refine lex_q rfl ⟨default, trivial⟩ ?_; go_big_quiet_step (fail); refine wpQuiet_nil ?_)
        refine lex_e rfl ?_
        go_wp2_with fail
        refine lex_go trivial ?_
        repeat (refine lex_q rfl ⟨default, trivial⟩ ?_; go_big_quiet_step (fail); refine wpQuiet_nil ?_)
        refine lex_e rfl ?_
        go_wp2_with fail
        refine lex_go trivial ?_
        repeat (refine lex_q rfl ⟨default, trivial⟩ ?_; go_big_quiet_step (fail); refine wpQuiet_nil ?_)
        refine lex_nil ?_
        go_wp2_with fail
        go_wp2
        go_loopw [6, 28] (fun v i wr => ∃ (k q' : Nat) (A' : Option Addr) (c' : Nat) (acc : List (Ev)), i = .int .i64 k ∧ v = .slice A' k c' ∧ k ≤ m ∧ OwnR encEv 7 wr w.heap.size 35 (.slice A' k c') acc ∧ Rdr B wr r L q' ∧ w.grownBy wr (some r) ∧ rdList (rdEv L) L p = bnd (rdRep (rdEv L) (m - k) q') (fun l q'' => .ok (acc ++ l, q''))) (fun _ i _ => m - (intOf i).toNat)
        case atStart => exact ⟨0, q, none, 0, [], rfl, rfl, by omega, OwnR.nil_ _ _ _, HR.out.drew, grown_drew hg1, HS.out⟩
        case round =>
          clear HR hg1 HS h0 h1
          obtain ⟨k, q', A', c', acc, rfl, rfl, hk, hown, hR, hg, heq⟩ := hrel
          have HE := Lib.hid heq
          clear heq
          by_cases hlt2 : k < m
          · have dk : decide ((k : Int) < (m : Int)) = true := by simp; omega
            have dk' : decide (k < m) = true := by simp; omega
            obtain ⟨j, hj⟩ : ∃ j, m - k = j + 1 := ⟨m - k - 1, by omega⟩
            go_wp2_with fail
            refine (revent_any B r q' L wr hR).mono ?_
            intro e w2 h2
            unfold Reads at h2
            cases hy : rdEv L q' with
            | error x =>
              rw [hy] at h2
              obtain ⟨rfl, hg2⟩ := h2
              have hfin : rdList (rdEv L) L p = .error x := by rw [HE.out, hj]; exact rdRep_err hy
              go_wp2
              refine ⟨rfl, ?_⟩
              unfold Reads
              rw [hfin]
              exact ⟨rfl, grown_tr hg hg2⟩
            | ok aq =>
              obtain ⟨a, q2⟩ := aq
              rw [hy] at h2
              obtain ⟨⟨_, rfl, hv⟩, hR2, hg2⟩ := h2
              unfold evV at hv
              subst hv
              have hstep : rdList (rdEv L) L p = bnd (rdRep (rdEv L) (m - (k + 1)) q2) (fun l q'' => .ok ((acc ++ [a]) ++ l, q'')) := by rw [HE.out, hj, rdRep_step hy, show m - (k + 1) = j by omega]
              have HST := Lib.hid hstep
              have hown2 := hown.kept_lt hg2 hlt
              have hl2 := hown2.len
              have Hl2 := Lib.hid hl2.1
              have sz := hg.size
              have sz2 := hg2.size
              have ha : Below w2.heap.size w2 (w2.alloc (.cells #[.int .i64 a.k0, .int .i64 a.k1, .int .i64 a.k2, .int .i64 a.k3, .int .i64 a.k4, .int .i64 a.k5, .int .i64 a.k6] 35)) := (Below.refl _ _).alloc (Nat.le_refl _) _
              have hone : Recs encEv (fun _ => True) (w2.alloc (.cells #[.int .i64 a.k0, .int .i64 a.k1, .int .i64 a.k2, .int .i64 a.k3, .int .i64 a.k4, .int .i64 a.k5, .int .i64 a.k6] 35)) (.slice (some ⟨w2.heap.size, 0, none⟩) 1 1) [a] := ⟨_, 1, rfl, by simp, by simp [maxLen], Cs.lit _ _ _ _ _ trivial rfl⟩
              clear hstep hown
              go_wp2_with (refine wpList_appR (o := ⟨some 35, _, _, _, _, _⟩) encEv_len encEv_one (.agg #[.int .i64 0, .int .i64 0, .int .i64 0, .int .i64 0, .int .i64 0, .int .i64 0, .int .i64 0]) 56 _ _ 39 35 w.heap.size acc [a] (some ⟨w2.heap.size, 0, none⟩) 1 1 (.slice A' k c') (k + 1) rfl rfl Try.underlying39 infoE_ rfl (by omega) rfl rfl (hown2.ext ha) hone (by rw [Hl2.out]) (by have := Hl2.out; omega) (by have := Hl2.out; omega) (by simp; omega) ?_; intro A9 c9 w9 hown9 hgr9 hat9 hc91 hc92)
              have hrow9 : ∀ b, (Value.slice A' k c').ownBlock = some b → w.heap.size ≤ b := fun b e => (World.ownsRow.lt hown2 _ e).1
              have hR9 := (hR2.ext ha).grown hgr9 (fun b hb => by have := hrow9 b hb; omega)
              have hG9 := grown_nw (grown_tr (grown_tr hg hg2) (grown_bl ha (some r))) hgr9 (fun b hb => .inl (hrow9 b hb))
              refine ⟨⟨k + 1, q2, A9, c9, acc ++ [a], by congr 1, rfl, by omega, hown9, hR9, hG9, HST.out⟩, by simp [intOf]; omega⟩
          · obtain rfl : k = m := by omega
            have dk : decide ((k : Int) < (k : Int)) = false := by simp
            have hfin : rdList (rdEv L) L p = .ok (acc, q') := by rw [HE.out, Nat.sub_self]; show Except.ok (acc ++ [], q') = _; rw [List.append_nil]
            go_wp2
            go_ret
            unfold Reads
            rw [hfin]
            exact ⟨⟨_, rfl, A', c', by show Value.slice A' k c' = _; rw [hown.len.1], hown⟩, hR, hg⟩

theorem infoS_ : (Try.prog.info? 73).map (fun i => (i.zero, i.size, i.bytes)) = some (some (.agg #[.int .i64 0, .int .i64 0, .int .i64 0, .int .i64 0]), 4, 32) := by kernel_rfl
set_option maxHeartbeats 2000000 in
theorem listS_any (B r p : Nat) (L : List UInt8) (w : World) (h : Rdr B w r L p) :
    Calls Try.prog 65 #[.pointer (some ⟨r, 0, none⟩), .func (.func 66) #[] #[]] w fun e w' => Reads B r L w (rdList (rdSn L) L p) (fun a w' v => ∃ A c, v = .slice A a.length c ∧ OwnR encSn 4 w' w.heap.size 73 v a) e w' := by
  have hlt := h.lt
  go_enter Try.func65, Try.ntmps65
  go_wp2_with fail
  refine (rint_any B r p L w h).mono ?_
  intro e w1 h1
  unfold Reads at h1
  cases hx : rdInt L p with
  | error k =>
    rw [hx] at h1
    obtain ⟨rfl, hg⟩ := h1
    have hfin : rdList (rdSn L) L p = .error k := by unfold rdList; rw [bnd_er hx]
    go_wp2
    refine ⟨rfl, ?_⟩
    unfold Reads
    rw [hfin]
    exact ⟨rfl, hg⟩
  | ok vq =>
    obtain ⟨n, q⟩ := vq
    rw [hx] at h1
    obtain ⟨⟨_, rfl, rfl⟩, hR1, hg1⟩ := h1
    have HR := Lib.hid hR1
    obtain ⟨hB, A, c, hrow, hby, hq, hL⟩ := hR1
    have h0 : w1.cell? ⟨r, 0, none⟩ = some (.slice A L.length c) := by rw [cell_of_row _ _ _ _ _ _ hrow]; rfl
    have h1 : w1.cell? ⟨r, 1, none⟩ = some (.int .i64 (q : Int)) := by rw [cell_of_row _ _ _ _ _ _ hrow]; rfl
    clear hrow hby h
    by_cases hneg : n < 0
    · have d0 : decide (n < 0) = true := by simp; omega
      have hfin : rdList (rdSn L) L p = .error 9 := rdList_bad hx (.inl hneg)
      go_wp2_with fail
      refine wp_region_lex (fun _ => True) (by kernel_rfl) (by kernel_rfl) trivial ?_
      repeat (first | (refine lex_q rfl ⟨default, trivial⟩ ?_; go_big_quiet_step (fail); refine wpQuiet_nil ?_) | (refine lex_skip rfl rfl trivial ?_; simp only [Act.put, List.setIfInBounds_toArray, List.set_cons_succ, List.set_cons_zero]) | (refine lex_e rfl ?_; go_wp2_with fail; refine lex_go trivial ?_))
      refine lex_nil ?_
      go_wp2_with fail
      go_wp2
      refine ⟨rfl, ?_⟩
      unfold Reads
      rw [hfin]
      exact ⟨rfl, grown_drew hg1⟩
    · have d0 : decide (n < 0) = false := by simp; omega
      by_cases hbig : (L.length : Int) - (q : Int) < n
      · have d1 : decide ((L.length : Int) - (q : Int) < n) = true := by simp; omega
        have hfin : rdList (rdSn L) L p = .error 9 := rdList_bad hx (.inr hbig)
        go_wp2_with fail
        refine wp_region_lex (fun _ => True) (by kernel_rfl) (by kernel_rfl) trivial ?_
        repeat (refine lex_q rfl ⟨default, trivial⟩ ?_; go_big_quiet_step (fail); refine wpQuiet_nil ?_)
        refine lex_e rfl ?_
        go_wp2_with fail
        refine lex_go trivial ?_
        repeat (refine lex_q rfl ⟨default, trivial⟩ ?_; go_big_quiet_step (fail); refine wpQuiet_nil ?_)
        refine lex_e rfl ?_
        go_wp2_with fail
        refine lex_go trivial ?_
        repeat (refine lex_q rfl ⟨default, trivial⟩ ?_; go_big_quiet_step (fail); refine wpQuiet_nil ?_)
        refine lex_nil ?_
        go_wp2_with fail
        go_wp2
        refine ⟨rfl, ?_⟩
        unfold Reads
        rw [hfin]
        exact ⟨rfl, grown_drew hg1⟩
      · have d1 : decide ((L.length : Int) - (q : Int) < n) = false := by simp; omega
        obtain ⟨m, rfl⟩ : ∃ m : Nat, n = (m : Int) := ⟨n.toNat, by omega⟩
        have hstart : rdList (rdSn L) L p = _ := rdList_start hx hbig
        have HS := Lib.hid hstart
        have hm : m ≤ 1000000000 := by omega
        clear hstart
        go_wp2_with fail
        refine wp_region_lex (fun _ => True) (by kernel_rfl) (by kernel_rfl) trivial ?_
        repeat (refine lex_q rfl ⟨default, trivial⟩ ?_; go_big_quiet_step (fail); refine wpQuiet_nil ?_)
        refine lex_e rfl ?_
        go_wp2_with fail
        refine lex_go trivial ?_
        repeat (refine lex_q rfl ⟨default, trivial⟩ ?_; go_big_quiet_step (fail); refine wpQuiet_nil ?_)
        refine lex_e rfl ?_
        go_wp2_with fail
        refine lex_go trivial ?_
        repeat (refine lex_q rfl ⟨default, trivial⟩ ?_; go_big_quiet_step (fail); refine wpQuiet_nil ?_)
        refine lex_nil ?_
        go_wp2_with fail
        go_wp2
        go_loopw [6, 28] (fun v i wr => ∃ (k q' : Nat) (A' : Option Addr) (c' : Nat) (acc : List (Snd)), i = .int .i64 k ∧ v = .slice A' k c' ∧ k ≤ m ∧ OwnR encSn 4 wr w.heap.size 73 (.slice A' k c') acc ∧ Rdr B wr r L q' ∧ w.grownBy wr (some r) ∧ rdList (rdSn L) L p = bnd (rdRep (rdSn L) (m - k) q') (fun l q'' => .ok (acc ++ l, q''))) (fun _ i _ => m - (intOf i).toNat)
        case atStart => exact ⟨0, q, none, 0, [], rfl, rfl, by omega, OwnR.nil_ _ _ _, HR.out.drew, grown_drew hg1, HS.out⟩
        case round =>
          clear HR hg1 HS h0 h1
          obtain ⟨k, q', A', c', acc, rfl, rfl, hk, hown, hR, hg, heq⟩ := hrel
          have HE := Lib.hid heq
          clear heq
          by_cases hlt2 : k < m
          · have dk : decide ((k : Int) < (m : Int)) = true := by simp; omega
            have dk' : decide (k < m) = true := by simp; omega
            obtain ⟨j, hj⟩ : ∃ j, m - k = j + 1 := ⟨m - k - 1, by omega⟩
            go_wp2_with fail
            refine (rsend_any B r q' L wr hR).mono ?_
            intro e w2 h2
            unfold Reads at h2
            cases hy : rdSn L q' with
            | error x =>
              rw [hy] at h2
              obtain ⟨rfl, hg2⟩ := h2
              have hfin : rdList (rdSn L) L p = .error x := by rw [HE.out, hj]; exact rdRep_err hy
              go_wp2
              refine ⟨rfl, ?_⟩
              unfold Reads
              rw [hfin]
              exact ⟨rfl, grown_tr hg hg2⟩
            | ok aq =>
              obtain ⟨a, q2⟩ := aq
              rw [hy] at h2
              obtain ⟨⟨_, rfl, hv⟩, hR2, hg2⟩ := h2
              unfold snV at hv
              subst hv
              have hstep : rdList (rdSn L) L p = bnd (rdRep (rdSn L) (m - (k + 1)) q2) (fun l q'' => .ok ((acc ++ [a]) ++ l, q'')) := by rw [HE.out, hj, rdRep_step hy, show m - (k + 1) = j by omega]
              have HST := Lib.hid hstep
              have hown2 := hown.kept_lt hg2 hlt
              have hl2 := hown2.len
              have Hl2 := Lib.hid hl2.1
              have sz := hg.size
              have sz2 := hg2.size
              have ha : Below w2.heap.size w2 (w2.alloc (.cells #[.int .i64 a.a, .int .i64 a.b, .int .i64 a.c, .int .i64 a.d] 73)) := (Below.refl _ _).alloc (Nat.le_refl _) _
              have hone : Recs encSn (fun _ => True) (w2.alloc (.cells #[.int .i64 a.a, .int .i64 a.b, .int .i64 a.c, .int .i64 a.d] 73)) (.slice (some ⟨w2.heap.size, 0, none⟩) 1 1) [a] := ⟨_, 1, rfl, by simp, by simp [maxLen], Cs.lit _ _ _ _ _ trivial rfl⟩
              clear hstep hown
              go_wp2_with (refine wpList_appR (o := ⟨some 35, _, _, _, _, _⟩) encSn_len encSn_one (.agg #[.int .i64 0, .int .i64 0, .int .i64 0, .int .i64 0]) 32 _ _ 40 73 w.heap.size acc [a] (some ⟨w2.heap.size, 0, none⟩) 1 1 (.slice A' k c') (k + 1) rfl rfl Try.underlying40 infoS_ rfl (by omega) rfl rfl (hown2.ext ha) hone (by rw [Hl2.out]) (by have := Hl2.out; omega) (by have := Hl2.out; omega) (by simp; omega) ?_; intro A9 c9 w9 hown9 hgr9 hat9 hc91 hc92)
              have hrow9 : ∀ b, (Value.slice A' k c').ownBlock = some b → w.heap.size ≤ b := fun b e => (World.ownsRow.lt hown2 _ e).1
              have hR9 := (hR2.ext ha).grown hgr9 (fun b hb => by have := hrow9 b hb; omega)
              have hG9 := grown_nw (grown_tr (grown_tr hg hg2) (grown_bl ha (some r))) hgr9 (fun b hb => .inl (hrow9 b hb))
              refine ⟨⟨k + 1, q2, A9, c9, acc ++ [a], by congr 1, rfl, by omega, hown9, hR9, hG9, HST.out⟩, by simp [intOf]; omega⟩
          · obtain rfl : k = m := by omega
            have dk : decide ((k : Int) < (k : Int)) = false := by simp
            have hfin : rdList (rdSn L) L p = .ok (acc, q') := by rw [HE.out, Nat.sub_self]; show Except.ok (acc ++ [], q') = _; rw [List.append_nil]
            go_wp2
            go_ret
            unfold Reads
            rw [hfin]
            exact ⟨⟨_, rfl, A', c', by show Value.slice A' k c' = _; rw [hown.len.1], hown⟩, hR, hg⟩

theorem infoO_ : (Try.prog.info? 75).map (fun i => (i.zero, i.size, i.bytes)) = some (some (.agg #[.int .i64 0, .int .i64 0]), 2, 16) := by kernel_rfl
set_option maxHeartbeats 2000000 in
theorem listO_any (B r p : Nat) (L : List UInt8) (w : World) (h : Rdr B w r L p) :
    Calls Try.prog 67 #[.pointer (some ⟨r, 0, none⟩), .func (.func 68) #[] #[]] w fun e w' => Reads B r L w (rdList (rdOu L) L p) (fun a w' v => ∃ A c, v = .slice A a.length c ∧ OwnR encOu 2 w' w.heap.size 75 v a) e w' := by
  have hlt := h.lt
  go_enter Try.func67, Try.ntmps67
  go_wp2_with fail
  refine (rint_any B r p L w h).mono ?_
  intro e w1 h1
  unfold Reads at h1
  cases hx : rdInt L p with
  | error k =>
    rw [hx] at h1
    obtain ⟨rfl, hg⟩ := h1
    have hfin : rdList (rdOu L) L p = .error k := by unfold rdList; rw [bnd_er hx]
    go_wp2
    refine ⟨rfl, ?_⟩
    unfold Reads
    rw [hfin]
    exact ⟨rfl, hg⟩
  | ok vq =>
    obtain ⟨n, q⟩ := vq
    rw [hx] at h1
    obtain ⟨⟨_, rfl, rfl⟩, hR1, hg1⟩ := h1
    have HR := Lib.hid hR1
    obtain ⟨hB, A, c, hrow, hby, hq, hL⟩ := hR1
    have h0 : w1.cell? ⟨r, 0, none⟩ = some (.slice A L.length c) := by rw [cell_of_row _ _ _ _ _ _ hrow]; rfl
    have h1 : w1.cell? ⟨r, 1, none⟩ = some (.int .i64 (q : Int)) := by rw [cell_of_row _ _ _ _ _ _ hrow]; rfl
    clear hrow hby h
    by_cases hneg : n < 0
    · have d0 : decide (n < 0) = true := by simp; omega
      have hfin : rdList (rdOu L) L p = .error 9 := rdList_bad hx (.inl hneg)
      go_wp2_with fail
      refine wp_region_lex (fun _ => True) (by kernel_rfl) (by kernel_rfl) trivial ?_
      repeat (first | (refine lex_q rfl ⟨default, trivial⟩ ?_; go_big_quiet_step (fail); refine wpQuiet_nil ?_) | (refine lex_skip rfl rfl trivial ?_; simp only [Act.put, List.setIfInBounds_toArray, List.set_cons_succ, List.set_cons_zero]) | (refine lex_e rfl ?_; go_wp2_with fail; refine lex_go trivial ?_))
      refine lex_nil ?_
      go_wp2_with fail
      go_wp2
      refine ⟨rfl, ?_⟩
      unfold Reads
      rw [hfin]
      exact ⟨rfl, grown_drew hg1⟩
    · have d0 : decide (n < 0) = false := by simp; omega
      by_cases hbig : (L.length : Int) - (q : Int) < n
      · have d1 : decide ((L.length : Int) - (q : Int) < n) = true := by simp; omega
        have hfin : rdList (rdOu L) L p = .error 9 := rdList_bad hx (.inr hbig)
        go_wp2_with fail
        refine wp_region_lex (fun _ => True) (by kernel_rfl) (by kernel_rfl) trivial ?_
        repeat (refine lex_q rfl ⟨default, trivial⟩ ?_; go_big_quiet_step (fail); refine wpQuiet_nil ?_)
        refine lex_e rfl ?_
        go_wp2_with fail
        refine lex_go trivial ?_
        repeat (refine lex_q rfl ⟨default, trivial⟩ ?_; go_big_quiet_step (fail); refine wpQuiet_nil ?_)
        refine lex_e rfl ?_
        go_wp2_with fail
        refine lex_go trivial ?_
        repeat (refine lex_q rfl ⟨default, trivial⟩ ?_; go_big_quiet_step (fail); refine wpQuiet_nil ?_)
        refine lex_nil ?_
        go_wp2_with fail
        go_wp2
        refine ⟨rfl, ?_⟩
        unfold Reads
        rw [hfin]
        exact ⟨rfl, grown_drew hg1⟩
      · have d1 : decide ((L.length : Int) - (q : Int) < n) = false := by simp; omega
        obtain ⟨m, rfl⟩ : ∃ m : Nat, n = (m : Int) := ⟨n.toNat, by omega⟩
        have hstart : rdList (rdOu L) L p = _ := rdList_start hx hbig
        have HS := Lib.hid hstart
        have hm : m ≤ 1000000000 := by omega
        clear hstart
        go_wp2_with fail
        refine wp_region_lex (fun _ => True) (by kernel_rfl) (by kernel_rfl) trivial ?_
        repeat (refine lex_q rfl ⟨default, trivial⟩ ?_; go_big_quiet_step (fail); refine wpQuiet_nil ?_)
        refine lex_e rfl ?_
        go_wp2_with fail
        refine lex_go trivial ?_
        repeat (refine lex_q rfl ⟨default, trivial⟩ ?_; go_big_quiet_step (fail); refine wpQuiet_nil ?_)
        refine lex_e rfl ?_
        go_wp2_with fail
        refine lex_go trivial ?_
        repeat (refine lex_q rfl ⟨default, trivial⟩ ?_; go_big_quiet_step (fail); refine wpQuiet_nil ?_)
        refine lex_nil ?_
        go_wp2_with fail
        go_wp2
        go_loopw [6, 28] (fun v i wr => ∃ (k q' : Nat) (A' : Option Addr) (c' : Nat) (acc : List (Ou)), i = .int .i64 k ∧ v = .slice A' k c' ∧ k ≤ m ∧ OwnR encOu 2 wr w.heap.size 75 (.slice A' k c') acc ∧ Rdr B wr r L q' ∧ w.grownBy wr (some r) ∧ rdList (rdOu L) L p = bnd (rdRep (rdOu L) (m - k) q') (fun l q'' => .ok (acc ++ l, q''))) (fun _ i _ => m - (intOf i).toNat)
        case atStart => exact ⟨0, q, none, 0, [], rfl, rfl, by omega, OwnR.nil_ _ _ _, HR.out.drew, grown_drew hg1, HS.out⟩
        case round =>
          clear HR hg1 HS h0 h1
          obtain ⟨k, q', A', c', acc, rfl, rfl, hk, hown, hR, hg, heq⟩ := hrel
          have HE := Lib.hid heq
          clear heq
          by_cases hlt2 : k < m
          · have dk : decide ((k : Int) < (m : Int)) = true := by simp; omega
            have dk' : decide (k < m) = true := by simp; omega
            obtain ⟨j, hj⟩ : ∃ j, m - k = j + 1 := ⟨m - k - 1, by omega⟩
            go_wp2_with fail
            refine (rout_any B r q' L wr hR).mono ?_
            intro e w2 h2
            unfold Reads at h2
            cases hy : rdOu L q' with
            | error x =>
              rw [hy] at h2
              obtain ⟨rfl, hg2⟩ := h2
              have hfin : rdList (rdOu L) L p = .error x := by rw [HE.out, hj]; exact rdRep_err hy
              go_wp2
              refine ⟨rfl, ?_⟩
              unfold Reads
              rw [hfin]
              exact ⟨rfl, grown_tr hg hg2⟩
            | ok aq =>
              obtain ⟨a, q2⟩ := aq
              rw [hy] at h2
              obtain ⟨⟨_, rfl, hv⟩, hR2, hg2⟩ := h2
              unfold ouV at hv
              subst hv
              have hstep : rdList (rdOu L) L p = bnd (rdRep (rdOu L) (m - (k + 1)) q2) (fun l q'' => .ok ((acc ++ [a]) ++ l, q'')) := by rw [HE.out, hj, rdRep_step hy, show m - (k + 1) = j by omega]
              have HST := Lib.hid hstep
              have hown2 := hown.kept_lt hg2 hlt
              have hl2 := hown2.len
              have Hl2 := Lib.hid hl2.1
              have sz := hg.size
              have sz2 := hg2.size
              have ha : Below w2.heap.size w2 (w2.alloc (.cells #[.int .i64 a.a, .int .i64 a.b] 75)) := (Below.refl _ _).alloc (Nat.le_refl _) _
              have hone : Recs encOu (fun _ => True) (w2.alloc (.cells #[.int .i64 a.a, .int .i64 a.b] 75)) (.slice (some ⟨w2.heap.size, 0, none⟩) 1 1) [a] := ⟨_, 1, rfl, by simp, by simp [maxLen], Cs.lit _ _ _ _ _ trivial rfl⟩
              clear hstep hown
              go_wp2_with (refine wpList_appR (o := ⟨some 35, _, _, _, _, _⟩) encOu_len encOu_one (.agg #[.int .i64 0, .int .i64 0]) 16 _ _ 41 75 w.heap.size acc [a] (some ⟨w2.heap.size, 0, none⟩) 1 1 (.slice A' k c') (k + 1) rfl rfl Try.underlying41 infoO_ rfl (by omega) rfl rfl (hown2.ext ha) hone (by rw [Hl2.out]) (by have := Hl2.out; omega) (by have := Hl2.out; omega) (by simp; omega) ?_; intro A9 c9 w9 hown9 hgr9 hat9 hc91 hc92)
              have hrow9 : ∀ b, (Value.slice A' k c').ownBlock = some b → w.heap.size ≤ b := fun b e => (World.ownsRow.lt hown2 _ e).1
              have hR9 := (hR2.ext ha).grown hgr9 (fun b hb => by have := hrow9 b hb; omega)
              have hG9 := grown_nw (grown_tr (grown_tr hg hg2) (grown_bl ha (some r))) hgr9 (fun b hb => .inl (hrow9 b hb))
              refine ⟨⟨k + 1, q2, A9, c9, acc ++ [a], by congr 1, rfl, by omega, hown9, hR9, hG9, HST.out⟩, by simp [intOf]; omega⟩
          · obtain rfl : k = m := by omega
            have dk : decide ((k : Int) < (k : Int)) = false := by simp
            have hfin : rdList (rdOu L) L p = .ok (acc, q') := by rw [HE.out, Nat.sub_self]; show Except.ok (acc ++ [], q') = _; rw [List.append_nil]
            go_wp2
            go_ret
            unfold Reads
            rw [hfin]
            exact ⟨⟨_, rfl, A', c', by show Value.slice A' k c' = _; rw [hown.len.1], hown⟩, hR, hg⟩

end Go.Proofs.Ytgjjfjibfleonaa
