/-
  The document's Pages.
-/
import Derived.Test.YtgjjfjibfleonaaRfB
namespace Go.Proofs.Ytgjjfjibfleonaa
open Go.RowKit
set_option maxRecDepth 100000
set_option linter.unusedVariables false

/-- a reader of the document's and one box, made at the world w -/
structure RJ (B r : Nat) (L : List UInt8) (T : TypeId) (w : World) (wr : World) (s : Except Nat Nat) (c8 : Array Value) : Prop where
  rd : RS B wr r L s
  hB : B ≤ w.heap.size
  lt : r < w.heap.size
  gr : w.grownBy wr (some r)
  h8 : wr.heap[w.heap.size]? = some (.cells c8 T (0, 0))
section
variable {B r : Nat} {L : List UInt8} {T : TypeId} {w wr w' : World} {s s' : Except Nat Nat} {c8 : Array Value}
theorem RJ.new (c8 : Array Value) (T : TypeId) (h : RS B w r L s) (hB : B ≤ w.heap.size) : ∃ W, W = w.alloc (.cells c8 T) ∧ RJ B r L T w W s c8 := by
  have hlt := h.lt
  have hb1 : Below w.heap.size w (w.alloc (.cells c8 T)) := (Below.refl _ w).alloc (Nat.le_refl _) _
  exact ⟨_, rfl, h.ext hb1, hB, hlt, grown_bl hb1 _, heap_alloc_new _ _⟩
theorem RJ.sz (h : RJ B r L T w wr s c8) : w.heap.size + 1 ≤ wr.heap.size := (Array.getElem?_eq_some_iff.1 h.h8).1
theorem RJ.call (h : RJ B r L T w wr s c8) (hR : RS B w' r L s') (hg : wr.grownBy w' (some r)) : RJ B r L T w w' s' c8 :=
  ⟨hR, h.hB, h.lt, grown_tr h.gr hg, (hg.block _ (Array.getElem?_eq_some_iff.1 h.h8).1 (by have := h.lt; simp; omega)).trans h.h8⟩
theorem RJ.set (h : RJ B r L T w wr s c8) (o : Nat) (v : Value) : RJ B r L T w (wr.setCell ⟨w.heap.size, o, none⟩ v) s (c8.setIfInBounds o v) :=
  have hg : wr.grownBy (wr.setCell ⟨w.heap.size, o, none⟩ v) (some w.heap.size) := grown_set ⟨rfl, rfl, rfl, Nat.le_refl _, fun _ _ _ => rfl⟩
  ⟨h.rd.grown hg (fun m hm => by cases hm; have := h.hB; have := h.lt; omega), h.hB, h.lt, grown_nw h.gr hg (fun b hb => .inl (by cases hb; exact Nat.le_refl _)), heap_setCell_same _ _ o _ _ _ h.h8⟩
theorem RJ.cell (h : RJ B r L T w wr s c8) (o : Nat) {v : Value} (hv : c8[o]? = some v) : wr.cell? ⟨w.heap.size, o, none⟩ = some v := by rw [cell_of_row _ _ _ _ _ _ h.h8]; exact hv
theorem RJ.frz (h : RJ B r L T w wr s c8) (o : Nat) : wr.frozen? ⟨w.heap.size, o, none⟩ = false := frozen_of_row _ _ _ _ _ h.h8
end
theorem rdPgs_eq (L : List UInt8) : rdPgs L = rdList (rdPg L) L := rfl
theorem rdPg_eq (L : List UInt8) (p : Nat) : bnd (rdInt L p) (fun a p1 => bnd (rdCnt L p1) (fun n p2 => bnd (rdRep (rdInt L) n.toNat p2) (fun l p3 => .ok (⟨a, l⟩, p3)))) = rdPg L p := by
  unfold rdPg
  cases h1 : rdInt L p with
  | error k => rfl
  | ok vq =>
    obtain ⟨a, p1⟩ := vq
    show bnd (rdCnt L p1) _ = bnd (rdList (rdInt L) L p1) _
    rw [← rdList_cnt]
    cases h2 : rdCnt L p1 with
    | error k => rfl
    | ok vq => rfl
set_option maxHeartbeats 2000000 in
theorem refPages_any (A : Option Addr) (n c : Nat) (k : Int) (L : List UInt8) (S : Nat → Prop) (w : World) (hb : Bytes S w (.slice A n c) L) (hn : n ≤ 100000000) :
    Calls Try.prog 37 #[.slice A n c, .int .i64 k] w fun e w' => RdOut (rdAt rdPgs L k) (.slice none 0 0) (fun a w' v => ∃ A c, v = .slice A a.length c ∧ PgsOwn w.heap.size w' v a) e w' ∧ Below w.heap.size w w' := by
  have hbL := hb.len
  go_enter Try.func37, Try.ntmps37
  go_wp2_with fail
  refine (begin_any A n c k L S w hb hn).mono ?_
  rintro e w1 ⟨rfl, hR1, hb1⟩
  have hz1 := hR1.lt
  go_wp2_with fail
  refine (refcount_s w.heap.size w.heap.size (stB L k) L w1 hR1).mono ?_
  rintro e w2 ⟨m, s2, rfl, hS2, hR2, hg2, hm2⟩
  have hz2 := hg2.size
  have HS2 := Lib.hid hS2
  have hb2 := Below.grow hb1 hg2 (Nat.le_refl _)
  clear hS2
  go_wp2
  go_loopw [8, 10] (fun v i wr => ∃ (j : Nat) (A' : Option Addr) (c' : Nat) (acc : List Pg) (sr : Except Nat Nat), i = .int .i64 j ∧ v = .slice A' j c' ∧ j ≤ m.toNat ∧ PgsOwn (w.heap.size + 1) wr (.slice A' j c') acc ∧ RS w.heap.size wr w.heap.size L sr ∧ Below w.heap.size w wr ∧ (∀ q, sr = .ok q → 0 ≤ m ∧ m ≤ 1000000000) ∧ j ≤ 1000000000 ∧ ∀ l' s'', StepF (rdRep (rdPg L) (m.toNat - j)) sr l' s'' → StepF (rdRep (rdPg L) m.toNat) s2 (acc ++ l') s'') (fun _ i _ => m.toNat - (intOf i).toNat)
  case atStart => exact ⟨0, none, 0, [], s2, rfl, rfl, by omega, PgsOwn.nil_ _ _, hR2, hb2, fun q hq => by have := hm2 q hq; omega, by omega, fun l' s'' hh => hh⟩
  case round =>
    clear hR1 hR2 hm2 hg2 hb1 hb2
    obtain ⟨j, A', c', acc, sr, rfl, rfl, hj, hown, hR, hbl, hnn, hk9, hcl⟩ := hrel
    have HCL := Lib.hid hcl
    clear hcl
    have hz := hR.lt
    by_cases hgo : (j : Int) < m ∧ ∃ q, sr = .ok q
    · obtain ⟨hlt2, q, rfl⟩ := hgo
      have dk : decide ((j : Int) < m) = true := by simpa using hlt2
      have hbm := hnn q rfl
      have hR' := Lib.hid hR
      obtain ⟨hB', Ar, cr, h1, hby, hq, hL⟩ := hR
      have c2 : wr.cell? ⟨w.heap.size, 2, none⟩ = some (.int .i64 0) := by rw [cell_of_row _ _ _ _ _ _ h1]; rfl
      clear h1 hby
      obtain ⟨i, hi⟩ : ∃ i, m.toNat - j = i + 1 := ⟨m.toNat - j - 1, by omega⟩
      obtain ⟨W0, hW0, hI0⟩ := RJ.new #[.int .i64 0, .slice none 0 0] 71 hR'.out (by omega)
      go_wp2_with fail
      rw [← hW0]
      clear hW0 c2
      refine (refint_s w.heap.size w.heap.size (.ok q) L W0 hI0.rd).mono ?_
      rintro e u1 ⟨v1, s1, rfl, hS1, hR1, hg1⟩
      have hJ := hI0.call hR1 hg1
      have hc := hJ.cell 0 (v := .int .i64 0) rfl
      have hf := hJ.frz 0
      have hI1 : RJ w.heap.size w.heap.size L 71 wr (u1.setCell ⟨wr.heap.size, 0, none⟩ (.int .i64 v1)) s1 #[.int .i64 v1, .slice none 0 0] := hJ.set 0 (.int .i64 v1)
      have HS1 := Lib.hid hS1
      clear hJ hI0 hg1 hR1 hS1
      go_wp2_with fail
      clear hc hf
      generalize u1.setCell ⟨wr.heap.size, 0, none⟩ (.int .i64 v1) = W1 at *
      refine (refcount_s w.heap.size w.heap.size s1 L W1 hI1.rd).mono ?_
      rintro e u2 ⟨v2, s3, rfl, hS3, hR2, hg2, hm3⟩
      have hI2 := hI1.call hR2 hg2
      have HS3 := Lib.hid hS3
      have sz2 := hI2.sz
      clear hI1 hg2 hR2 hS3
      go_wp2_with fail
      refine (refints_s w.heap.size w.heap.size s3 L v2 u2 hI2.rd (by omega) (fun q hq => by have := hm3 q hq; omega)).mono ?_
      rintro e u3 ⟨Ac, cc, l3, s4, rfl, hO3, hS4, hR3, hg3⟩
      have hJ := hI2.call hR3 hg3
      have hc := hJ.cell 1 (v := .slice none 0 0) rfl
      have hf := hJ.frz 1
      have hgS : u3.grownBy (u3.setCell ⟨wr.heap.size, 1, none⟩ (.slice Ac l3.length cc)) (some wr.heap.size) := grown_set ⟨rfl, rfl, rfl, Nat.le_refl _, fun _ _ _ => rfl⟩
      have hI3 : RJ w.heap.size w.heap.size L 71 wr (u3.setCell ⟨wr.heap.size, 1, none⟩ (.slice Ac l3.length cc)) s4 #[.int .i64 v1, .slice Ac l3.length cc] := hJ.set 1 (.slice Ac l3.length cc)
      have hO3 := (hO3.kept_lt hgS (by omega)).weak (show wr.heap.size + 1 ≤ u2.heap.size by omega)
      have hstep : StepF (rdPg L) (.ok q) ⟨v1, l3⟩ s4 := (StepF.comp HS1.out (StepF.comp HS3.out (StepF.comp hS4 (StepF.pure_ _ _)))).to (rdPg_eq L)
      have hcl2 : ∀ l' s'', StepF (rdRep (rdPg L) (m.toNat - (j + 1))) s4 l' s'' → StepF (rdRep (rdPg L) m.toNat) s2 ((acc ++ [⟨v1, l3⟩]) ++ l') s'' := fun l' s'' hh => by
        rw [List.append_assoc]
        refine HCL.out ([⟨v1, l3⟩] ++ l') s'' ?_
        rw [hi]
        rw [show m.toNat - (j + 1) = i by omega] at hh
        exact StepF.cons hstep hh
      have HCL2 := Lib.hid hcl2
      have k0 : (u3.setCell ⟨wr.heap.size, 1, none⟩ (.slice Ac l3.length cc)).cell? ⟨wr.heap.size, 0, none⟩ = some (Value.int .i64 v1) := hI3.cell 0 rfl
      have k1 : (u3.setCell ⟨wr.heap.size, 1, none⟩ (.slice Ac l3.length cc)).cell? ⟨wr.heap.size, 1, none⟩ = some (Value.slice Ac l3.length cc) := hI3.cell 1 rfl
      have HI := Lib.hid hI3
      have hown1 := hown.kept hI3.gr (by omega)
      have HOW : RowKit.Hid (∃ xs, OwnR encPg 2 wr (w.heap.size + 1) 71 (.slice A' j c') xs) := Lib.hid (by obtain ⟨xs, hxo, _⟩ := hown; exact ⟨xs, hxo⟩)
      clear hJ hI2 hg3 hR3 hS4 hcl2 hI3 hgS hstep hR' HCL
      go_wp2_with (refine wpList_stop 40 rfl ?_)
      refine ⟨?_⟩
      clear hc hf
      generalize u3.setCell ⟨wr.heap.size, 1, none⟩ (.slice Ac l3.length cc) = W4 at *
      have szW := HI.out.sz
      have hl2 := hown1.len
      obtain ⟨xs, hown2, hxl, hxe⟩ := hown1
      have hlx : xs.length = j := by omega
      have Hl2 := Lib.hid hlx
      have ha : Below W4.heap.size W4 (W4.alloc (.cells #[.int .i64 v1, .slice Ac l3.length cc] 71)) := (Below.refl _ _).alloc (Nat.le_refl _) _
      have hone : Recs encPg (fun _ => True) (W4.alloc (.cells #[.int .i64 v1, .slice Ac l3.length cc] 71)) (.slice (some ⟨W4.heap.size, 0, none⟩) 1 1) [⟨v1, Ac, l3.length, cc⟩] := ⟨_, 1, rfl, by simp, by simp [maxLen], Cs.lit _ _ _ _ _ trivial rfl⟩
      have hcl : Recs encZ (fun b => w.heap.size + 1 ≤ b ∧ (Value.slice A' j c').ownBlock ≠ some b) W4 (.slice Ac l3.length cc) l3 := hO3.recs.mono (fun b _ hs => ⟨by have := hs.1; omega, fun e => by
        obtain ⟨ys, hyo⟩ := HOW.out
        have := (World.ownsRow.lt hyo _ e).2
        have := hs.1
        omega⟩)
      go_wp2_with (refine wpList_appR (o := ⟨some 42, _, _, _, _, _⟩) encPg_len encPg_one (.agg #[.int .i64 0, .slice none 0 0]) 32 _ _ 38 71 (w.heap.size + 1) xs [⟨v1, Ac, l3.length, cc⟩] (some ⟨W4.heap.size, 0, none⟩) 1 1 (.slice A' j c') (j + 1) rfl rfl Try.underlying38 infoP_ rfl (by omega) rfl rfl (hown2.ext ha) hone (by rw [Hl2.out]) (by have := Hl2.out; omega) (by have := Hl2.out; omega) (by simp; omega) ?_; intro A9 c9 w9 hown9 hgr9 hat9 hc91 hc92)
      have hrow9 : ∀ b, (Value.slice A' j c').ownBlock = some b → w.heap.size + 1 ≤ b := fun b e => (World.ownsRow.lt hown2 _ e).1
      have hR9 := (HI.out.rd.ext ha).grown hgr9 (fun b hb => by have := hrow9 b hb; omega)
      have hbl9 : Below w.heap.size w w9 := (hown2.ext ha).grow hgr9 (Below.ext (Below.grow hbl HI.out.gr (Nat.le_refl _)) ha) (by omega) (by have := ha.size; have := HI.out.sz; omega)
      refine ⟨⟨j + 1, A9, c9, acc ++ [⟨v1, l3⟩], s4, by congr 1, rfl, by omega, PgsOwn.push ⟨hxl, fun i x' t' hx' ht' => ⟨(hxe i x' t' hx' ht').1, (hxe i x' t' hx' ht').2.ext ha⟩⟩ ⟨v1, Ac, l3.length, cc⟩ ⟨v1, l3⟩ rfl (hcl.ext ha) hown9 hgr9 hat9, hR9, hbl9, fun _ _ => hbm, by omega, HCL2.out⟩, by simp [intOf]; omega⟩
    · have hfin : StepF (rdPgs L) (stB L k) acc sr := by
        have h2 : StepF (rdRep (rdPg L) m.toNat) s2 acc sr := by
          rw [← List.append_nil acc]
          refine HCL.out [] sr ?_
          cases sr with
          | error x => exact StepF.er _ _ _
          | ok q =>
            have : ¬ (j : Int) < m := fun hx => hgo ⟨hx, q, rfl⟩
            rw [show m.toNat - j = 0 by omega]
            exact StepF.pure_ _ _
        exact (StepF.comp HS2.out h2).to (rdList_cnt (rdPg L) L)
      have hl := hown.len.1
      have hownW := hown.weak (show w.heap.size ≤ w.heap.size + 1 by omega)
      clear HCL
      cases hs : sr with
      | error x =>
        rw [hs] at hR hfin
        have hf := hfin.err_
        obtain ⟨h0, u, pp, h1⟩ := hR
        have ce : wr.cell? ⟨w.heap.size, 2, none⟩ = some (.int .i64 (x : Int)) := by rw [cell_of_row _ _ _ _ _ _ h1]; rfl
        have d : ((x : Int) != 0) = true := by simp; omega
        have d' : ((x : Int) == 0) = false := by simp; omega
        clear h1 hgo hfin hnn
        have fin : ∀ (w' : World), w' = wr.drew → RdOut (rdAt rdPgs L k) (.slice none 0 0) (fun a w' v => ∃ A c, v = .slice A a.length c ∧ PgsOwn w.heap.size w' v a) (.returned (.tuple #[.slice none 0 0, .int .i64 0, .int .i64 (x : Int)])) w' ∧ Below w.heap.size w w' := by
          rintro w' rfl
          rw [rdAt_st, hf]
          exact ⟨rfl, hbl.drew⟩
        have FIN := Lib.hid fin
        clear fin hf
        by_cases hlt2 : (j : Int) < m
        · have dk : decide ((j : Int) < m) = true := by simpa using hlt2
          go_wp2_with fail
          go_wp2_with fail
          refine wp_region_lex (fun _ => True) (by kernel_rfl) (by kernel_rfl) trivial ?_
          repeat (first | (refine lex_q rfl ⟨default, trivial⟩ ?_; go_big_quiet_step (fail); refine wpQuiet_nil ?_) | (refine lex_skip rfl rfl trivial ?_; simp only [Act.put, List.setIfInBounds_toArray, List.set_cons_succ, List.set_cons_zero]) | (refine lex_e rfl ?_; go_wp2_with fail; refine lex_go trivial ?_))
          refine lex_nil ?_
          go_wp2_with fail
          go_wp2
          refine bodyPost_ret (results_tmp3 rfl _ _ _) rfl ?_
          exact FIN.out _ rfl
        · have dk : decide ((j : Int) < m) = false := by simpa using hlt2
          go_wp2_with fail
          go_wp2_with fail
          refine wp_region_lex (fun _ => True) (by kernel_rfl) (by kernel_rfl) trivial ?_
          repeat (first | (refine lex_q rfl ⟨default, trivial⟩ ?_; go_big_quiet_step (fail); refine wpQuiet_nil ?_) | (refine lex_skip rfl rfl trivial ?_; simp only [Act.put, List.setIfInBounds_toArray, List.set_cons_succ, List.set_cons_zero]) | (refine lex_e rfl ?_; go_wp2_with fail; refine lex_go trivial ?_))
          refine lex_nil ?_
          go_wp2_with fail
          go_wp2
          refine bodyPost_ret (results_tmp3 rfl _ _ _) rfl ?_
          exact FIN.out _ rfl
      | ok q =>
        rw [hs] at hR hfin
        have hf := hfin.ok_
        have hlt2 : ¬ (j : Int) < m := fun hx => hgo ⟨hx, q, hs⟩
        have dk : decide ((j : Int) < m) = false := by simpa using hlt2
        obtain ⟨hB', Ar, cr, h1, hby, hq, hL⟩ := hR
        have c1 : wr.cell? ⟨w.heap.size, 1, none⟩ = some (.int .i64 (q : Int)) := by rw [cell_of_row _ _ _ _ _ _ h1]; rfl
        have ce : wr.cell? ⟨w.heap.size, 2, none⟩ = some (.int .i64 0) := by rw [cell_of_row _ _ _ _ _ _ h1]; rfl
        clear h1 hby hgo hfin hnn hq
        go_wp2_with fail
        go_wp2_with fail
        refine wp_region_lex (fun _ => True) (by kernel_rfl) (by kernel_rfl) trivial ?_
        repeat (first | (refine lex_q rfl ⟨default, trivial⟩ ?_; go_big_quiet_step (fail); refine wpQuiet_nil ?_) | (refine lex_skip rfl rfl trivial ?_; simp only [Act.put, List.setIfInBounds_toArray, List.set_cons_succ, List.set_cons_zero]) | (refine lex_e rfl ?_; go_wp2_with fail; refine lex_go trivial ?_))
        refine lex_nil ?_
        go_wp2_with fail
        go_wp2
        refine bodyPost_ret (results_tmp3 rfl _ _ _) rfl ?_
        rw [rdAt_st, hf]
        exact ⟨⟨_, rfl, A', c', by show Value.slice A' j c' = _; rw [hl], hownW.dr⟩, hbl.drew⟩
end Go.Proofs.Ytgjjfjibfleonaa
