/-
  codec.reader: the pages.
-/
import Derived.Test.YtgjjfjibfleonaaRdP
namespace Go.Proofs.Ytgjjfjibfleonaa
open Go.RowKit
set_option maxRecDepth 100000
set_option linter.unusedVariables false

theorem encPg_one (x : PgV) : ∀ u ∈ encPg x, u.oneCell' = true := by
  intro u hu
  simp [encPg] at hu
  rcases hu with rfl | rfl <;> rfl
/-- the tears that are drawn so far: the row of the call's own, and the lists of lost sectors elsewhere -/
def PgsOwn (base : Nat) (w : World) (v : Value) (ts : List Pg) : Prop := ∃ xs, OwnR encPg 2 w base 71 v xs ∧ xs.length = ts.length ∧ ∀ (i : Nat) (x : PgV) (t : Pg), xs[i]? = some x → ts[i]? = some t → x.num = t.num ∧ Recs encZ (fun b => base ≤ b ∧ v.ownBlock ≠ some b) w (.slice x.A x.n x.c) t.cells
theorem PgsOwn.nil_ (base : Nat) (w : World) : PgsOwn base w (.slice none 0 0) [] := ⟨[], OwnR.nil_ _ _ _, rfl, fun i x t hx => by simp at hx⟩
theorem PgsOwn.pgs {base : Nat} {w : World} {v : Value} {ts : List Pg} (h : PgsOwn base w v ts) : Pgs (base ≤ ·) w v ts := by
  obtain ⟨xs, h1, h2, h3⟩ := h
  exact ⟨xs, h1.recs.mono (fun _ _ h => h.1), h2, fun i x t hx ht => ⟨(h3 i x t hx ht).1, (h3 i x t hx ht).2.mono (fun _ _ h => h.1)⟩⟩
theorem PgsOwn.len {base : Nat} {w : World} {A : Option Addr} {n c : Nat} {ts : List Pg} (h : PgsOwn base w (.slice A n c) ts) : ts.length = n ∧ n ≤ c ∧ c ≤ 9223372036854775807 := h.pgs.len
/-- a block below base may change -/
theorem PgsOwn.kept {base g : Nat} {w w' : World} {v : Value} {ts : List Pg} (h : PgsOwn base w v ts) (hg : w.grownBy w' (some g)) (hlt : g < base) : PgsOwn base w' v ts := by
  obtain ⟨xs, h1, h2, h3⟩ := h
  refine ⟨xs, h1.kept hg ?_, h2, fun i x t hx ht => ⟨(h3 i x t hx ht).1, (h3 i x t hx ht).2.keep (fun b hb hs => hg.block b hb (fun e => by cases e; omega))⟩⟩
  rcases Option.eq_none_or_eq_some v.ownBlock with h0 | ⟨m, h0⟩
  · exact .inl h0
  · refine .inr (fun e => ?_)
    rw [h0] at e
    cases e
    have := (World.ownsRow.lt h1 _ h0).1
    omega
theorem cells_keep {base : Nat} {w w' : World} {v v' : Value} {u : Value} {l : List Int} (h : Recs encZ (fun b => base ≤ b ∧ v.ownBlock ≠ some b) w u l) (hg : w.grownBy w' v.ownBlock) (hat : v'.ownBlock = v.ownBlock ∨ v'.ownBlock = some w.heap.size) :
    Recs encZ (fun b => base ≤ b ∧ v'.ownBlock ≠ some b) w' u l := by
  have h1 : Recs encZ (fun b => base ≤ b ∧ v.ownBlock ≠ some b ∧ b < w.heap.size) w u l := h.mono (fun b hb hs => ⟨hs.1, hs.2, hb⟩)
  refine (h1.keep (fun b hb hs => hg.block b hb (fun e => hs.2.1 e.symm))).mono (fun b _ hs => ⟨hs.1, fun e => ?_⟩)
  rcases hat with h2 | h2
  · exact hs.2.1 (h2.symm.trans e)
  · rw [h2] at e
    cases e
    exact Nat.lt_irrefl _ hs.2.2
theorem PgsOwn.push {base : Nat} {w w' : World} {v v' : Value} {ts : List Pg} {xs : List PgV} (hx : xs.length = ts.length ∧ ∀ (i : Nat) (x : PgV) (t : Pg), xs[i]? = some x → ts[i]? = some t → x.num = t.num ∧ Recs encZ (fun b => base ≤ b ∧ v.ownBlock ≠ some b) w (.slice x.A x.n x.c) t.cells)
    (x : PgV) (t : Pg) (h1 : x.num = t.num) (h2 : Recs encZ (fun b => base ≤ b ∧ v.ownBlock ≠ some b) w (.slice x.A x.n x.c) t.cells) (hown : OwnR encPg 2 w' base 71 v' (xs ++ [x])) (hg : w.grownBy w' v.ownBlock) (hat : v'.ownBlock = v.ownBlock ∨ v'.ownBlock = some w.heap.size) : PgsOwn base w' v' (ts ++ [t]) := by
  refine ⟨_, hown, by simp [hx.1], fun i x' t' hx' ht' => ?_⟩
  rcases Nat.lt_or_ge i xs.length with hi | hi
  · rw [List.getElem?_append_left hi] at hx'
    rw [List.getElem?_append_left (by omega)] at ht'
    obtain ⟨g1, g2⟩ := hx.2 i x' t' hx' ht'
    exact ⟨g1, cells_keep g2 hg hat⟩
  · rw [List.getElem?_append_right hi] at hx'
    rw [List.getElem?_append_right (by omega)] at ht'
    have hi' : i - xs.length = 0 := by
      rcases Nat.eq_zero_or_pos (i - xs.length) with h | h
      · exact h
      · rw [List.getElem?_eq_none (by simp; omega)] at hx'
        cases hx'
    rw [hi'] at hx'
    rw [← hx.1, hi'] at ht'
    cases hx'
    cases ht'
    exact ⟨h1, cells_keep h2 hg hat⟩

theorem infoP_ : (Try.prog.info? 71).map (fun i => (i.zero, i.size, i.bytes)) = some (some (.agg #[.int .i64 0, .slice none 0 0]), 2, 32) := by kernel_rfl
set_option maxHeartbeats 2000000 in
theorem listP_any (B r p : Nat) (L : List UInt8) (w : World) (h : Rdr B w r L p) :
    Calls Try.prog 60 #[.pointer (some ⟨r, 0, none⟩), .func (.func 61) #[] #[]] w fun e w' => Reads B r L w (rdList (rdPg L) L p) (fun a w' v => ∃ A c, v = .slice A a.length c ∧ PgsOwn w.heap.size w' v a) e w' := by
  have hlt := h.lt
  go_enter Try.func60, Try.ntmps60
  go_wp2_with fail
  refine (rint_any B r p L w h).mono ?_
  intro e w1 h1
  unfold Reads at h1
  cases hx : rdInt L p with
  | error k =>
    rw [hx] at h1
    obtain ⟨rfl, hg⟩ := h1
    have hfin : rdList (rdPg L) L p = .error k := by unfold rdList; rw [bnd_er hx]
    go_wp2
    refine ⟨rfl, ?_⟩
    unfold Reads
    rw [hfin]
    exact ⟨rfl, hg⟩
  | ok vq =>
    obtain ⟨n, q⟩ := vq
    rw [hx] at h1
    obtain ⟨⟨_, rfl, rfl⟩, hR1, hg1⟩ := h1
    have HR := Lib.hid hR1
    obtain ⟨hB, A, c, hrow, hby, hq, hL⟩ := hR1
    have h0 : w1.cell? ⟨r, 0, none⟩ = some (.slice A L.length c) := by rw [cell_of_row _ _ _ _ _ _ hrow]; rfl
    have h1 : w1.cell? ⟨r, 1, none⟩ = some (.int .i64 (q : Int)) := by rw [cell_of_row _ _ _ _ _ _ hrow]; rfl
    clear hrow hby h
    by_cases hneg : n < 0
    · have d0 : decide (n < 0) = true := by simp; omega
      have hfin : rdList (rdPg L) L p = .error 9 := rdList_bad hx (.inl hneg)
      go_wp2_with fail
      refine wp_region_lex (fun _ => True) (by kernel_rfl) (by kernel_rfl) trivial ?_
      repeat (first | (refine lex_q rfl ⟨default, trivial⟩ ?_; go_big_quiet_step (fail); refine wpQuiet_nil ?_) | (refine lex_skip rfl rfl trivial ?_; simp only [Act.put, List.setIfInBounds_toArray, List.set_cons_succ, List.set_cons_zero]) | (refine lex_e rfl ?_; go_wp2_with fail; refine lex_go trivial ?_))
      refine lex_nil ?_
      go_wp2_with fail
      go_wp2
      refine ⟨rfl, ?_⟩
      unfold Reads
      rw [hfin]
      exact ⟨rfl, grown_drew hg1⟩
    · have d0 : decide (n < 0) = false := by simp; omega
      by_cases hbig : (L.length : Int) - (q : Int) < n
      · have d1 : decide ((L.length : Int) - (q : Int) < n) = true := by simp; omega
        have hfin : rdList (rdPg L) L p = .error 9 := rdList_bad hx (.inr hbig)
        go_wp2_with fail
        refine wp_region_lex (fun _ => True) (by kernel_rfl) (by kernel_rfl) trivial ?_
        repeat (refine lex_q rfl ⟨default, trivial⟩ ?_; go_big_quiet_step (fail); refine wpQuiet_nil ?_)
        refine lex_e rfl ?_
        go_wp2_with fail
        refine lex_go trivial ?_
        repeat (refine lex_q rfl ⟨default, trivial⟩ ?_; go_big_quiet_step (fail); refine wpQuiet_nil ?_)
        refine lex_e rfl ?_
        go_wp2_with fail
        refine lex_go trivial ?_
        repeat (refine lex_q rfl ⟨default, trivial⟩ ?_; go_big_quiet_step (fail); refine wpQuiet_nil ?_)
        refine lex_nil ?_
        go_wp2_with fail
        go_wp2
        refine ⟨rfl, ?_⟩
        unfold Reads
        rw [hfin]
        exact ⟨rfl, grown_drew hg1⟩
      · have d1 : decide ((L.length : Int) - (q : Int) < n) = false := by simp; omega
        obtain ⟨m, rfl⟩ : ∃ m : Nat, n = (m : Int) := ⟨n.toNat, by omega⟩
        have hstart : rdList (rdPg L) L p = _ := rdList_start hx hbig
        have HS := Lib.hid hstart
        have hm : m ≤ 1000000000 := by omega
        clear hstart
        go_wp2_with fail
        refine wp_region_lex (fun _ => True) (by kernel_rfl) (by kernel_rfl) trivial ?_
        repeat (refine lex_q rfl ⟨default, trivial⟩ ?_; go_big_quiet_step (fail); refine wpQuiet_nil ?_)
        refine lex_e rfl ?_
        go_wp2_with fail
        refine lex_go trivial ?_
        repeat (refine lex_q rfl ⟨default, trivial⟩ ?_; go_big_quiet_step (fail); refine wpQuiet_nil ?_)
        refine lex_e rfl ?_
        go_wp2_with fail
        refine lex_go trivial ?_
        repeat (refine lex_q rfl ⟨default, trivial⟩ ?_; go_big_quiet_step (fail); refine wpQuiet_nil ?_)
        refine lex_nil ?_
        go_wp2_with fail
        go_wp2
        go_loopw [6, 28] (fun v i wr => ∃ (k q' : Nat) (A' : Option Addr) (c' : Nat) (acc : List (Pg)), i = .int .i64 k ∧ v = .slice A' k c' ∧ k ≤ m ∧ PgsOwn w.heap.size wr (.slice A' k c') acc ∧ Rdr B wr r L q' ∧ w.grownBy wr (some r) ∧ rdList (rdPg L) L p = bnd (rdRep (rdPg L) (m - k) q') (fun l q'' => .ok (acc ++ l, q''))) (fun _ i _ => m - (intOf i).toNat)
        case atStart => exact ⟨0, q, none, 0, [], rfl, rfl, by omega, PgsOwn.nil_ _ _, HR.out.drew, grown_drew hg1, HS.out⟩
        case round =>
          clear HR hg1 HS h0 h1
          obtain ⟨k, q', A', c', acc, rfl, rfl, hk, hown, hR, hg, heq⟩ := hrel
          have HE := Lib.hid heq
          have HOW : RowKit.Hid (∃ xs, OwnR encPg 2 wr w.heap.size 71 (.slice A' k c') xs) := Lib.hid (by obtain ⟨xs, hxo, _⟩ := hown; exact ⟨xs, hxo⟩)
          clear heq
          by_cases hlt2 : k < m
          · have dk : decide ((k : Int) < (m : Int)) = true := by simp; omega
            have dk' : decide (k < m) = true := by simp; omega
            obtain ⟨j, hj⟩ : ∃ j, m - k = j + 1 := ⟨m - k - 1, by omega⟩
            go_wp2_with fail
            refine (rpage_any B r q' L wr hR).mono ?_
            intro e w2 h2
            unfold Reads at h2
            cases hy : rdPg L q' with
            | error x =>
              rw [hy] at h2
              obtain ⟨rfl, hg2⟩ := h2
              have hfin : rdList (rdPg L) L p = .error x := by rw [HE.out, hj]; exact rdRep_err hy
              go_wp2
              refine ⟨rfl, ?_⟩
              unfold Reads
              rw [hfin]
              exact ⟨rfl, grown_tr hg hg2⟩
            | ok aq =>
              obtain ⟨a, q2⟩ := aq
              rw [hy] at h2
              obtain ⟨⟨_, rfl, Ac, cc, rfl, hOc⟩, hR2, hg2⟩ := h2
              have hstep : rdList (rdPg L) L p = bnd (rdRep (rdPg L) (m - (k + 1)) q2) (fun l q'' => .ok ((acc ++ [a]) ++ l, q'')) := by rw [HE.out, hj, rdRep_step hy, show m - (k + 1) = j by omega]
              have HST := Lib.hid hstep
              have hown1 := hown.kept hg2 hlt
              have hl2 := hown1.len
              obtain ⟨xs, hown2, hxl, hxe⟩ := hown1
              have hlx : xs.length = k := by omega
              have Hl2 := Lib.hid hlx
              have sz := hg.size
              have sz2 := hg2.size
              have ha : Below w2.heap.size w2 (w2.alloc (.cells #[.int .i64 a.num, .slice Ac a.cells.length cc] 71)) := (Below.refl _ _).alloc (Nat.le_refl _) _
              have hone : Recs encPg (fun _ => True) (w2.alloc (.cells #[.int .i64 a.num, .slice Ac a.cells.length cc] 71)) (.slice (some ⟨w2.heap.size, 0, none⟩) 1 1) [⟨a.num, Ac, a.cells.length, cc⟩] := ⟨_, 1, rfl, by simp, by simp [maxLen], Cs.lit _ _ _ _ _ trivial rfl⟩
              have hcl : Recs encZ (fun b => w.heap.size ≤ b ∧ (Value.slice A' k c').ownBlock ≠ some b) w2 (.slice Ac a.cells.length cc) a.cells := hOc.recs.mono (fun b _ hs => ⟨by have := hs.1; omega, fun e => by
                obtain ⟨ys, hyo⟩ := HOW.out
                have := (World.ownsRow.lt hyo _ e).2
                have := hs.1
                omega⟩)
              clear hstep
              go_wp2_with (refine wpList_appR (o := ⟨some 35, _, _, _, _, _⟩) encPg_len encPg_one (.agg #[.int .i64 0, .slice none 0 0]) 32 _ _ 38 71 w.heap.size xs [⟨a.num, Ac, a.cells.length, cc⟩] (some ⟨w2.heap.size, 0, none⟩) 1 1 (.slice A' k c') (k + 1) rfl rfl Try.underlying38 infoP_ rfl (by omega) rfl rfl (hown2.ext ha) hone (by rw [Hl2.out]) (by have := Hl2.out; omega) (by have := Hl2.out; omega) (by simp; omega) ?_; intro A9 c9 w9 hown9 hgr9 hat9 hc91 hc92)
              have hrow9 : ∀ b, (Value.slice A' k c').ownBlock = some b → w.heap.size ≤ b := fun b e => (World.ownsRow.lt hown2 _ e).1
              have hR9 := (hR2.ext ha).grown hgr9 (fun b hb => by have := hrow9 b hb; omega)
              have hG9 := grown_nw (grown_tr (grown_tr hg hg2) (grown_bl ha (some r))) hgr9 (fun b hb => .inl (hrow9 b hb))
              refine ⟨⟨k + 1, q2, A9, c9, acc ++ [a], by congr 1, rfl, by omega, PgsOwn.push ⟨hxl, fun i x' t' hx' ht' => ⟨(hxe i x' t' hx' ht').1, (hxe i x' t' hx' ht').2.ext ha⟩⟩ ⟨a.num, Ac, a.cells.length, cc⟩ a rfl (hcl.ext ha) hown9 hgr9 hat9, hR9, hG9, HST.out⟩, by simp [intOf]; omega⟩
          · obtain rfl : k = m := by omega
            have dk : decide ((k : Int) < (k : Int)) = false := by simp
            have hfin : rdList (rdPg L) L p = .ok (acc, q') := by rw [HE.out, Nat.sub_self]; show Except.ok (acc ++ [], q') = _; rw [List.append_nil]
            go_wp2
            go_ret
            unfold Reads
            rw [hfin]
            exact ⟨⟨_, rfl, A', c', by show Value.slice A' k c' = _; rw [hown.len.1], hown⟩, hR, hg⟩

set_option maxHeartbeats 1000000 in
theorem rpages_any (B r p : Nat) (L : List UInt8) (w : World) (h : Rdr B w r L p) :
    Calls Try.prog 44 #[.pointer (some ⟨r, 0, none⟩)] w fun e w' => Reads B r L w (rdPgs L p) (fun a w' v => ∃ A c, v = .slice A a.length c ∧ PgsOwn w.heap.size w' v a) e w' := by
  unfold rdPgs
  go_enter Try.func44, Try.ntmps44
  go_wp2_with fail
  refine (listP_any B r p L w h).mono ?_
  intro e w1 h1
  unfold Reads at h1
  cases hx : rdList (rdPg L) L p with
  | error k =>
    rw [hx] at h1
    obtain ⟨rfl, hg⟩ := h1
    go_wp2
    refine ⟨rfl, ?_⟩
    unfold Reads
    rw [hx]
    exact ⟨rfl, hg⟩
  | ok vq =>
    obtain ⟨v, q⟩ := vq
    rw [hx] at h1
    obtain ⟨⟨_, rfl, A, c, rfl, hO⟩, hR, hg⟩ := h1
    go_wp2
    go_ret
    unfold Reads
    rw [hx]
    exact ⟨⟨_, rfl, A, c, rfl, hO⟩, hR, hg⟩
end Go.Proofs.Ytgjjfjibfleonaa
