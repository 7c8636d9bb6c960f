/-
  The document's State.
-/
import Derived.Test.YtgjjfjibfleonaaRfC
import Derived.Test.YtgjjfjibfleonaaRdS
import Derived.Test.YtgjjfjibfleonaaLexTail
import Derived.Deep.Cut
import Derived.Deep.CutRange
import Derived.Deep.CutBlock
namespace Go.Proofs.Ytgjjfjibfleonaa
open Go.RowKit
set_option maxRecDepth 100000
set_option linter.unusedVariables false

/-- a state whose lists lie in blocks of a class -/
def StV (S : Nat → Prop) (w : World) (v : Value) (s : Stt) : Prop := ∃ A1 c1 A2 c2 A3 c3 A4 c4, v = .agg #[.slice A1 s.cells.length c1, .slice A2 s.evs.length c2, .slice A3 s.sent.length c3, .slice A4 s.outs.length c4] ∧ Recs encZ S w (.slice A1 s.cells.length c1) s.cells ∧ Recs encEv S w (.slice A2 s.evs.length c2) s.evs ∧ Recs encSn S w (.slice A3 s.sent.length c3) s.sent ∧ Recs encOu S w (.slice A4 s.outs.length c4) s.outs
/-- the reader, the boxes, and what is kept between b8 and base -/
structure SK (L : List UInt8) (w : World) (b8 base : Nat) (cs : Array Value) (K : World → Prop) (wr : World) (s : Except Nat Nat) : Prop where
  rk : RK (w.heap.size + 1) (w.heap.size + 1) L w w.heap.size #[Value.slice none 0 0, Value.slice none 0 0, Value.slice none 0 0, Value.slice none 0 0] b8 43 wr s cs
  rl : w.heap.size + 1 < b8
  lo : b8 < base
  sz : base ≤ wr.heap.size
  kp : K wr
  hK : ∀ w1 w2, Keep (fun b => b8 < b ∧ b < base) w1 w2 → K w1 → K w2
section
variable {L : List UInt8} {w wr w' : World} {b8 base : Nat} {cs : Array Value} {K : World → Prop} {s s' : Except Nat Nat}
theorem SK.call (h : SK L w b8 base cs K wr s) (hR : RS (w.heap.size + 1) w' (w.heap.size + 1) L s') (hg : wr.grownBy w' (some (w.heap.size + 1))) : SK L w b8 base cs K w' s' :=
  ⟨h.rk.call hR hg, h.rl, h.lo, Nat.le_trans h.sz hg.size, h.hK _ _ (fun b hb hs => hg.block b hb (fun e => by have := h.rl; cases e; omega)) h.kp, h.hK⟩
theorem SK.ext (h : SK L w b8 base cs K wr s) (hb : Below wr.heap.size wr w') : SK L w b8 base cs K w' s :=
  ⟨h.rk.ext hb, h.rl, h.lo, Nat.le_trans h.sz hb.size, h.hK _ _ (fun b hb' hs => hb.block b hb') h.kp, h.hK⟩
theorem SK.grown {row : Option Nat} (h : SK L w b8 base cs K wr s) (hg : wr.grownBy w' row) (hr : ∀ m, row = some m → base ≤ m) : SK L w b8 base cs K w' s :=
  have hlo := h.lo
  have hrl := h.rl
  ⟨⟨h.rk.rd.grown hg (fun m hm => by have := hr m hm; omega), h.rk.bl.grown hg (by have := h.sz; omega) (fun m hm => by have := hr m hm; omega), h.rk.lo, h.rk.ne, (hg.block _ (Array.getElem?_eq_some_iff.1 h.rk.h4).1 (fun e => by have := hr _ e.symm; omega)).trans h.rk.h4, (hg.block _ (Array.getElem?_eq_some_iff.1 h.rk.h8).1 (fun e => by have := hr _ e.symm; omega)).trans h.rk.h8⟩, h.rl, h.lo, Nat.le_trans h.sz hg.size, h.hK _ _ (fun b hb hs => hg.block b hb (fun e => by have := hr _ e.symm; omega)) h.kp, h.hK⟩
theorem SK.set (h : SK L w b8 base cs K wr s) (o : Nat) (v : Value) : SK L w b8 base (cs.setIfInBounds o v) K (wr.setCell ⟨b8, o, none⟩ v) s :=
  have hg : wr.grownBy (wr.setCell ⟨b8, o, none⟩ v) (some b8) := grown_set ⟨rfl, rfl, rfl, Nat.le_refl _, fun _ _ _ => rfl⟩
  ⟨h.rk.set o v, h.rl, h.lo, Nat.le_trans h.sz hg.size, h.hK _ _ (fun b hb hs => hg.block b hb (fun e => by cases e; omega)) h.kp, h.hK⟩
theorem SK.next {α : Type} {enc : α → List Value} {k : Nat} {e : TypeId} {v : Value} {l : List α} (h : SK L w b8 base cs K wr s) (hO : OwnR enc k wr base e v l) : ∃ K' : World → Prop, (∀ w', K' w' → K w' ∧ Recs enc (fun b => b8 < b) w' v l) ∧ SK L w b8 wr.heap.size cs K' wr s := by
  have hlo := h.lo
  have hsz := h.sz
  refine ⟨fun w' => K w' ∧ Recs enc (fun b => b8 < b ∧ b < wr.heap.size) w' v l, fun w' hw => ⟨hw.1, hw.2.mono (fun b _ hs => hs.1)⟩, h.rk, h.rl, by omega, Nat.le_refl _, ⟨h.kp, hO.recs.mono (fun b hb hs => ⟨by have := hs.1; omega, hb⟩)⟩, fun w1 w2 hk hw => ⟨h.hK w1 w2 (fun b hb hs => hk b hb ⟨hs.1, by omega⟩) hw.1, hw.2.keep hk⟩⟩
end
theorem rdSt_eq (L : List UInt8) (p : Nat) : bnd (bnd (rdCnt L p) fun n q => rdRep (rdInt L) n.toNat q) (fun a p1 => bnd (bnd (rdCnt L p1) fun n q => rdRep (rdEv L) n.toNat q) fun b p2 => bnd (bnd (rdCnt L p2) fun n q => rdRep (rdSn L) n.toNat q) fun c p3 => bnd (bnd (rdCnt L p3) fun n q => rdRep (rdOu L) n.toNat q) fun d p4 => .ok (⟨a, b, c, d⟩, p4)) = rdSt L p := by
  simp only [rdList_cnt]
  rfl
set_option maxHeartbeats 2000000 in
theorem refState_any (A : Option Addr) (n c : Nat) (k : Int) (L : List UInt8) (S : Nat → Prop) (w : World) (hb : Bytes S w (.slice A n c) L) (hn : n ≤ 100000000) :
    Calls Try.prog 39 #[.slice A n c, .int .i64 k] w fun e w' => RdOut (rdAt rdSt L k) (.agg #[Value.slice none 0 0, Value.slice none 0 0, Value.slice none 0 0, Value.slice none 0 0]) (fun a w' v => StV (w.heap.size ≤ ·) w' v a) e w' ∧ Below w.heap.size w w' := by
  obtain ⟨W, hW⟩ : ∃ W, W = w.alloc (.cells #[Value.slice none 0 0, Value.slice none 0 0, Value.slice none 0 0, Value.slice none 0 0] 43) := ⟨_, rfl⟩
  have hbW : Below w.heap.size w W := by rw [hW]; exact (Below.refl _ _).alloc (Nat.le_refl _) _
  have r0 : W.heap[w.heap.size]? = some (.cells #[Value.slice none 0 0, Value.slice none 0 0, Value.slice none 0 0, Value.slice none 0 0] 43 (0, 0)) := by rw [hW]; exact heap_alloc_new _ _
  have hsW : W.heap.size = w.heap.size + 1 := by rw [hW]; simp
  have hbL := hb.len
  go_enter Try.func39, Try.ntmps39
  go_wp2_with fail
  rw [← hW]
  clear hW
  refine (begin_any A n c k L S W (hb.ext hbW) hn).mono ?_
  rintro e w1 ⟨rfl, hR1, hb1⟩
  rw [hsW] at hR1
  rw [hsW]
  have r1 := (hb1.block w.heap.size (by omega)).trans r0
  have b1 := Below.ext hbW hb1
  have hsz1 : w.heap.size + 2 ≤ w1.heap.size := hR1.lt
  clear r0 hb1
  obtain ⟨W0, hW0⟩ : ∃ W0, W0 = w1.alloc (.cells #[Value.slice none 0 0, Value.slice none 0 0, Value.slice none 0 0, Value.slice none 0 0] 43) := ⟨_, rfl⟩
  have hb0 : Below w1.heap.size w1 W0 := by rw [hW0]; exact (Below.refl _ _).alloc (Nat.le_refl _) _
  have r8 : W0.heap[w1.heap.size]? = some (.cells #[Value.slice none 0 0, Value.slice none 0 0, Value.slice none 0 0, Value.slice none 0 0] 43 (0, 0)) := by rw [hW0]; exact heap_alloc_new _ _
  have hI0 : RK (w.heap.size + 1) (w.heap.size + 1) L w w.heap.size #[Value.slice none 0 0, Value.slice none 0 0, Value.slice none 0 0, Value.slice none 0 0] w1.heap.size 43 W0 (stB L k) #[Value.slice none 0 0, Value.slice none 0 0, Value.slice none 0 0, Value.slice none 0 0] := ⟨hR1.ext hb0, Below.ext b1 hb0, ⟨by omega, by omega, by omega, by omega⟩, ⟨by omega, by omega, by omega⟩, (hb0.block _ (by omega)).trans r1, r8⟩
  have hK0 : SK L w w1.heap.size (w1.heap.size + 1) #[Value.slice none 0 0, Value.slice none 0 0, Value.slice none 0 0, Value.slice none 0 0] (fun _ => True) W0 (stB L k) := ⟨hI0, by omega, by omega, (Array.getElem?_eq_some_iff.1 r8).1, trivial, fun _ _ _ _ => trivial⟩
  clear r8 hb0 r1 b1 hR1 hI0
  go_wp2_with fail
  rw [← hW0]
  clear hW0
  refine (refcount_s (w.heap.size + 1) (w.heap.size + 1) (stB L k) L W0 hK0.rk.rd).mono ?_
  rintro e u1 ⟨m1, s1, rfl, hS1, hR, hg, hm1⟩
  have hK1 := hK0.call hR hg
  have sz1 := hK1.sz
  clear hK0 hg hR
  have HS1 := Lib.hid hS1
  clear hS1
  go_wp2_with fail
  refine (refints_s (w.heap.size + 1) (w.heap.size + 1) s1 L m1 u1 hK1.rk.rd (by omega) (fun q hq => by have := hm1 q hq; omega)).mono ?_
  rintro e u2 ⟨A1, c1, l1, s2, rfl, hO1, hS2, hR, hg⟩
  have HSa := Lib.hid (StepF.comp (g := fun n q => rdRep (rdInt L) n.toNat q) HS1.out hS2)
  have hJ := hK1.call hR hg
  have hc := hJ.rk.cell 0 (v := .slice none 0 0) rfl
  have hf := hJ.rk.frz 0
  have hgS : u2.grownBy (u2.setCell ⟨w1.heap.size, 0, none⟩ (.slice A1 l1.length c1)) (some w1.heap.size) := grown_set ⟨rfl, rfl, rfl, Nat.le_refl _, fun _ _ _ => rfl⟩
  have hO1 := (hO1.kept_lt hgS (by omega)).weak (show w1.heap.size + 1 ≤ u1.heap.size by omega)
  have hI2 : SK L w w1.heap.size (w1.heap.size + 1) #[.slice A1 l1.length c1, .slice none 0 0, .slice none 0 0, .slice none 0 0] (fun _ => True) (u2.setCell ⟨w1.heap.size, 0, none⟩ (.slice A1 l1.length c1)) s2 := hJ.set 0 (.slice A1 l1.length c1)
  clear hJ hK1 hg hR hgS hS2 hm1 HS1
  go_wp2_with fail
  clear hc hf
  generalize u2.setCell ⟨w1.heap.size, 0, none⟩ (.slice A1 l1.length c1) = W2 at *
  obtain ⟨K2, hKK2, hK2⟩ := hI2.next hO1
  clear hI2 hO1
  refine (refcount_s (w.heap.size + 1) (w.heap.size + 1) s2 L W2 hK2.rk.rd).mono ?_
  rintro e u2 ⟨m2, c2, rfl, hS, hR, hg, hm2⟩
  have HC2 := Lib.hid hS
  have HK2 := Lib.hid (hK2.call hR hg)
  clear hK2 hS hR hg
  go_upto_block 0 with fail
  go_cut [] from 26 (fun wx => ∃ (A9 : Option Addr) (c9 : Nat) (l9 : List Ev) (s9 : Except Nat Nat), SK L w w1.heap.size W2.heap.size #[.slice A1 l1.length c1, .slice A9 l9.length c9, .slice none 0 0, .slice none 0 0] K2 wx s9 ∧ OwnR encEv 7 wx W2.heap.size 35 (.slice A9 l9.length c9) l9 ∧ StepF (rdRep (rdEv L) m2.toNat) c2 l9 s9)
  case first =>
    go_wp2_with fail
    go_loopw [10] (fun i wr => ∃ (j : Nat) (A' : Option Addr) (c' : Nat) (acc : List Ev) (sr : Except Nat Nat), i = .int .i64 j ∧ j ≤ m2.toNat ∧ SK L w w1.heap.size W2.heap.size #[.slice A1 l1.length c1, .slice A' j c', .slice none 0 0, .slice none 0 0] K2 wr sr ∧ OwnR encEv 7 wr W2.heap.size 35 (.slice A' j c') acc ∧ (∀ q, sr = .ok q → 0 ≤ m2 ∧ m2 ≤ 1000000000) ∧ j ≤ 1000000000 ∧ ∀ l' s'', StepF (rdRep (rdEv L) (m2.toNat - j)) sr l' s'' → StepF (rdRep (rdEv L) m2.toNat) c2 (acc ++ l') s'') (fun i _ => m2.toNat - (intOf i).toNat)
    case atStart => exact ⟨0, none, 0, [], c2, rfl, by omega, HK2.out, OwnR.nil_ _ _ _, fun q hq => by have := hm2 q hq; omega, by omega, fun l' s'' hh => hh⟩
    case round =>
      clear hm2 HK2
      obtain ⟨j, A', c', acc, sr, rfl, hj, hK, hown, hnn, hk9, hcl⟩ := hrel
      have HCL := Lib.hid hcl
      clear hcl
      have hz := hK.sz
      have hlo := hK.lo
      have hrl := hK.rl
      by_cases hgo : (j : Int) < m2 ∧ ∃ q, sr = .ok q
      · obtain ⟨hlt2, q, rfl⟩ := hgo
        have dk : decide ((j : Int) < m2) = true := by simpa using hlt2
        have hbm := hnn q rfl
        have HK := Lib.hid hK
        have q1 : wr.cell? ⟨w1.heap.size, 1, none⟩ = some (.slice A' j c') := hK.rk.cell 1 rfl
        obtain ⟨hB', Ar, cr, h1, hby, hq, hL⟩ := hK.rk.rd
        have ce2 : wr.cell? ⟨w.heap.size + 1, 2, none⟩ = some (.int .i64 0) := by rw [cell_of_row _ _ _ _ _ _ h1]; rfl
        clear h1 hby hK
        obtain ⟨i, hi⟩ : ∃ i, m2.toNat - j = i + 1 := ⟨m2.toNat - j - 1, by omega⟩
        go_wp2_with fail
        refine wp_region_tail (fun w' => w'.cell? ⟨w1.heap.size, 1, none⟩ = some (.slice A' j c')) 5 (by kernel_rfl) (by kernel_rfl) (by kernel_rfl) (by decide) q1 ?_
        simp only [List.take_succ_cons, List.take_zero, List.drop_succ_cons, List.drop_zero]
        repeat (first | (refine lexL_q0 rfl ?_; go_big_quiet_step (fail); refine wpQuiet_nil ?_) | (refine lexL_skip0 rfl rfl ?_; simp only [Act.put, List.setIfInBounds_toArray, List.set_cons_succ, List.set_cons_zero]))
        refine lexL_ld (⟨w1.heap.size, 1, none⟩) (.slice A' j c') rfl rfl rfl (fun w' hw' => run_ld1 (by kernel_rfl) hw') ?_
        simp only [Act.put, List.setIfInBounds_toArray, List.set_cons_succ, List.set_cons_zero]
        repeat (first | (refine lexL_q0 rfl ?_; go_big_quiet_step (fail); refine wpQuiet_nil ?_) | (refine lexL_skip0 rfl rfl ?_; simp only [Act.put, List.setIfInBounds_toArray, List.set_cons_succ, List.set_cons_zero]))
        refine lexL_e rfl ?_
        go_wp2_with fail
        refine (refevent_s (w.heap.size + 1) (w.heap.size + 1) (.ok q) L wr.drew HK.out.rk.rd.drew (by show w.heap.size + 1 ≤ wr.heap.size; omega)).mono ?_
        rintro e u1 ⟨a, s5, rfl, hS5, hR5, hg5⟩
        have hg5' : wr.grownBy u1 (some (w.heap.size + 1)) := ⟨hg5.os, hg5.tape, hg5.output, hg5.size, hg5.block⟩
        have hK5 := HK.out.call hR5 hg5'
        have q5 : u1.cell? ⟨w1.heap.size, 1, none⟩ = some (.slice A' j c') := hK5.rk.cell 1 rfl
        have hown5 := hown.kept_lt hg5' (by omega)
        have hcl2 : ∀ l' s'', StepF (rdRep (rdEv L) (m2.toNat - (j + 1))) s5 l' s'' → StepF (rdRep (rdEv L) m2.toNat) c2 ((acc ++ [a]) ++ l') s'' := fun l' s'' hh => by
          rw [List.append_assoc]
          refine HCL.out ([a] ++ l') s'' ?_
          rw [hi]
          rw [show m2.toNat - (j + 1) = i by omega] at hh
          exact StepF.cons hS5 hh
        have HCL2 := Lib.hid hcl2
        clear hcl2 HCL hS5
        unfold evV
        have ha : Below u1.heap.size u1 (u1.alloc (.cells #[.int .i64 a.k0, .int .i64 a.k1, .int .i64 a.k2, .int .i64 a.k3, .int .i64 a.k4, .int .i64 a.k5, .int .i64 a.k6] 35)) := (Below.refl _ _).alloc (Nat.le_refl _) _
        have hone : Recs encEv (fun _ => True) (u1.alloc (.cells #[.int .i64 a.k0, .int .i64 a.k1, .int .i64 a.k2, .int .i64 a.k3, .int .i64 a.k4, .int .i64 a.k5, .int .i64 a.k6] 35)) (.slice (some ⟨u1.heap.size, 0, none⟩) 1 1) [a] := ⟨_, 1, rfl, by simp, by simp [maxLen], Cs.lit _ _ _ _ _ trivial rfl⟩
        have HK6 := Lib.hid (hK5.ext ha)
        have q6 : (u1.alloc (.cells #[.int .i64 a.k0, .int .i64 a.k1, .int .i64 a.k2, .int .i64 a.k3, .int .i64 a.k4, .int .i64 a.k5, .int .i64 a.k6] 35)).cell? ⟨w1.heap.size, 1, none⟩ = some (.slice A' j c') := HK6.out.rk.cell 1 rfl
        have Hl5 := Lib.hid hown5.len.1
        have hz5 := hK5.sz
        clear hK5 hg5 hg5' hR5 hown HK
        go_wp2_with fail
        refine lexL_go (q5) ?_
        repeat (first | (refine lexL_q0 rfl ?_; go_big_quiet_step (fail); refine wpQuiet_nil ?_) | (refine lexL_skip0 rfl rfl ?_; simp only [Act.put, List.setIfInBounds_toArray, List.set_cons_succ, List.set_cons_zero]))
        refine lexL_e rfl ?_
        go_wp2_with fail
        refine lexL_go q6 ?_
        clear q6 q5 q1 ce2
        refine lexL_nil ?_
        refine wpList_appR encEv_len encEv_one (.agg #[.int .i64 0, .int .i64 0, .int .i64 0, .int .i64 0, .int .i64 0, .int .i64 0, .int .i64 0]) 56 _ _ 39 35 W2.heap.size acc [a] (some ⟨u1.heap.size, 0, none⟩) 1 1 (.slice A' j c') (j + 1) rfl rfl Try.underlying39 infoE_ rfl (by omega) rfl rfl (hown5.ext ha) hone (by rw [Hl5.out]) (by have := Hl5.out; omega) (by have := Hl5.out; omega) (by simp; omega) ?_
        intro A9 c9 w9 hown9 hgr9 hat9 hc91 hc92
        have hK9 := (HK6.out.grown hgr9 (fun b hb => (World.ownsRow.lt hown5 b hb).1))
        have q9 : w9.frozen? ⟨w1.heap.size, 1, none⟩ = false := hK9.rk.frz 1
        have q9' : w9.cell? ⟨w1.heap.size, 1, none⟩ = some (.slice A' j c') := hK9.rk.cell 1 rfl
        have hgS : w9.grownBy (w9.setCell ⟨w1.heap.size, 1, none⟩ (.slice A9 (j + 1) c9)) (some w1.heap.size) := grown_set ⟨rfl, rfl, rfl, Nat.le_refl _, fun _ _ _ => rfl⟩
        have HO9 := Lib.hid (hown9.kept_lt hgS (by omega))
        have HK9 : RowKit.Hid (SK L w w1.heap.size W2.heap.size #[.slice A1 l1.length c1, .slice A9 (j + 1) c9, .slice none 0 0, .slice none 0 0] K2 (w9.setCell ⟨w1.heap.size, 1, none⟩ (.slice A9 (j + 1) c9)) s5) := Lib.hid (hK9.set 1 (.slice A9 (j + 1) c9))
        clear hK9 hgS hown9
        go_wp2_with fail
        rw [Only_normal]
        go_wp2
        go_roundw
        case rel => exact ⟨j + 1, A9, c9, acc ++ [a], s5, by congr 1, by omega, HK9.out, HO9.out, fun _ _ => hbm, by omega, HCL2.out⟩
        case measure => simp [intOf]; omega
      · have hfin : StepF (rdRep (rdEv L) m2.toNat) c2 acc sr := by
          rw [← List.append_nil acc]
          refine HCL.out [] sr ?_
          cases sr with
          | error x => exact StepF.er _ _ _
          | ok q =>
            have : ¬ (j : Int) < m2 := fun hx => hgo ⟨hx, q, rfl⟩
            rw [show m2.toNat - j = 0 by omega]
            exact StepF.pure_ _ _
        have hl := hown.len.1
        have HFIN : RowKit.Hid (∃ (A9 : Option Addr) (c9 : Nat) (l9 : List Ev) (s9 : Except Nat Nat), SK L w w1.heap.size W2.heap.size #[.slice A1 l1.length c1, .slice A9 l9.length c9, .slice none 0 0, .slice none 0 0] K2 wr s9 ∧ OwnR encEv 7 wr W2.heap.size 35 (.slice A9 l9.length c9) l9 ∧ StepF (rdRep (rdEv L) m2.toNat) c2 l9 s9) := Lib.hid ⟨A', c', acc, sr, by rw [hl]; exact hK, by rw [hl]; exact hown, hfin⟩
        by_cases hlt2 : (j : Int) < m2
        · have dk : decide ((j : Int) < m2) = true := by simpa using hlt2
          cases hs : sr with
          | ok q => exact (hgo ⟨hlt2, q, hs⟩).elim
          | error x =>
            obtain ⟨h0, u, pp, h1⟩ : RS (w.heap.size + 1) wr (w.heap.size + 1) L (.error x) := by rw [← hs]; exact hK.rk.rd
            have ce : wr.cell? ⟨w.heap.size + 1, 2, none⟩ = some (.int .i64 (x : Int)) := by rw [cell_of_row _ _ _ _ _ _ h1]; rfl
            have d' : ((x : Int) == 0) = false := by simp; omega
            clear h1 hgo hfin hnn hK HCL hown
            go_wp2
            go_meet
            case rel => exact HFIN.out
        · have dk : decide ((j : Int) < m2) = false := by simpa using hlt2
          clear hgo hfin hnn hK HCL hown
          go_wp2
          go_meet
          case rel => exact HFIN.out
  case rest =>
    obtain ⟨A2, c2', l2, s4, hKx, hO2, hS4⟩ := hcut
    have HSb := Lib.hid (StepF.comp (g := fun n q => rdRep (rdEv L) n.toNat q) HC2.out hS4)
    obtain ⟨K3, hKK3, hK3⟩ := hKx.next hO2
    clear hKx hO2 hS4 HC2
    generalize hwc : wc = W3 at *
    go_wp2_with fail
    refine (refcount_s (w.heap.size + 1) (w.heap.size + 1) s4 L W3 hK3.rk.rd).mono ?_
    rintro e u3 ⟨m3, c3, rfl, hS, hR, hg, hm3⟩
    have HC3 := Lib.hid hS
    have HK3 := Lib.hid (hK3.call hR hg)
    clear hK3 hS hR hg
    go_upto_block 2 with fail
    go_cut [] from 47 (fun wx => ∃ (A9 : Option Addr) (c9 : Nat) (l9 : List Snd) (s9 : Except Nat Nat), SK L w w1.heap.size W3.heap.size #[.slice A1 l1.length c1, .slice A2 l2.length c2', .slice A9 l9.length c9, .slice none 0 0] K3 wx s9 ∧ OwnR encSn 4 wx W3.heap.size 73 (.slice A9 l9.length c9) l9 ∧ StepF (rdRep (rdSn L) m3.toNat) c3 l9 s9)
    case first =>
      go_wp2_with fail
      go_loopw [11] (fun i wr => ∃ (j : Nat) (A' : Option Addr) (c' : Nat) (acc : List Snd) (sr : Except Nat Nat), i = .int .i64 j ∧ j ≤ m3.toNat ∧ SK L w w1.heap.size W3.heap.size #[.slice A1 l1.length c1, .slice A2 l2.length c2', .slice A' j c', .slice none 0 0] K3 wr sr ∧ OwnR encSn 4 wr W3.heap.size 73 (.slice A' j c') acc ∧ (∀ q, sr = .ok q → 0 ≤ m3 ∧ m3 ≤ 1000000000) ∧ j ≤ 1000000000 ∧ ∀ l' s'', StepF (rdRep (rdSn L) (m3.toNat - j)) sr l' s'' → StepF (rdRep (rdSn L) m3.toNat) c3 (acc ++ l') s'') (fun i _ => m3.toNat - (intOf i).toNat)
      case atStart => exact ⟨0, none, 0, [], c3, rfl, by omega, HK3.out, OwnR.nil_ _ _ _, fun q hq => by have := hm3 q hq; omega, by omega, fun l' s'' hh => hh⟩
      case round =>
        clear hm3 HK3
        obtain ⟨j, A', c', acc, sr, rfl, hj, hK, hown, hnn, hk9, hcl⟩ := hrel
        have HCL := Lib.hid hcl
        clear hcl
        have hz := hK.sz
        have hlo := hK.lo
        have hrl := hK.rl
        by_cases hgo : (j : Int) < m3 ∧ ∃ q, sr = .ok q
        · obtain ⟨hlt2, q, rfl⟩ := hgo
          have dk : decide ((j : Int) < m3) = true := by simpa using hlt2
          have hbm := hnn q rfl
          have HK := Lib.hid hK
          have q1 : wr.cell? ⟨w1.heap.size, 2, none⟩ = some (.slice A' j c') := hK.rk.cell 2 rfl
          obtain ⟨hB', Ar, cr, h1, hby, hq, hL⟩ := hK.rk.rd
          have ce2 : wr.cell? ⟨w.heap.size + 1, 2, none⟩ = some (.int .i64 0) := by rw [cell_of_row _ _ _ _ _ _ h1]; rfl
          clear h1 hby hK
          obtain ⟨i, hi⟩ : ∃ i, m3.toNat - j = i + 1 := ⟨m3.toNat - j - 1, by omega⟩
          obtain ⟨X0, hX0, hI0⟩ := RJ.new #[.int .i64 0, .int .i64 0, .int .i64 0, .int .i64 0] 73 HK.out.rk.rd (by omega)
          go_wp2_with fail
          rw [← hX0]
          clear hX0 ce2 q1
          refine (refint_s (w.heap.size + 1) (w.heap.size + 1) (.ok q) L X0 hI0.rd).mono ?_
          rintro e y1 ⟨v1, t1, rfl, hT1, hR, hg⟩
          have hJ := hI0.call hR hg
          have hc := hJ.cell 0 (v := .int .i64 0) rfl
          have hf := hJ.frz 0
          have hI1 : RJ (w.heap.size + 1) (w.heap.size + 1) L 73 wr (y1.setCell ⟨wr.heap.size, 0, none⟩ (.int .i64 v1)) t1 #[.int .i64 v1, .int .i64 0, .int .i64 0, .int .i64 0] := hJ.set 0 (.int .i64 v1)
          have HT1 := Lib.hid hT1
          clear hJ hI0 hg hR hT1
          go_wp2_with fail
          clear hc hf
          generalize y1.setCell ⟨wr.heap.size, 0, none⟩ (.int .i64 v1) = X1 at *
          refine (refint_s (w.heap.size + 1) (w.heap.size + 1) t1 L X1 hI1.rd).mono ?_
          rintro e y2 ⟨v2, t2, rfl, hT2, hR, hg⟩
          have hJ := hI1.call hR hg
          have hc := hJ.cell 1 (v := .int .i64 0) rfl
          have hf := hJ.frz 1
          have hI2 : RJ (w.heap.size + 1) (w.heap.size + 1) L 73 wr (y2.setCell ⟨wr.heap.size, 1, none⟩ (.int .i64 v2)) t2 #[.int .i64 v1, .int .i64 v2, .int .i64 0, .int .i64 0] := hJ.set 1 (.int .i64 v2)
          have HT2 := Lib.hid hT2
          clear hJ hI1 hg hR hT2
          go_wp2_with fail
          clear hc hf
          generalize y2.setCell ⟨wr.heap.size, 1, none⟩ (.int .i64 v2) = X2 at *
          refine (refint_s (w.heap.size + 1) (w.heap.size + 1) t2 L X2 hI2.rd).mono ?_
          rintro e y3 ⟨v3, t3, rfl, hT3, hR, hg⟩
          have hJ := hI2.call hR hg
          have hc := hJ.cell 2 (v := .int .i64 0) rfl
          have hf := hJ.frz 2
          have hI3 : RJ (w.heap.size + 1) (w.heap.size + 1) L 73 wr (y3.setCell ⟨wr.heap.size, 2, none⟩ (.int .i64 v3)) t3 #[.int .i64 v1, .int .i64 v2, .int .i64 v3, .int .i64 0] := hJ.set 2 (.int .i64 v3)
          have HT3 := Lib.hid hT3
          clear hJ hI2 hg hR hT3
          go_wp2_with fail
          clear hc hf
          generalize y3.setCell ⟨wr.heap.size, 2, none⟩ (.int .i64 v3) = X3 at *
          refine (refint_s (w.heap.size + 1) (w.heap.size + 1) t3 L X3 hI3.rd).mono ?_
          rintro e y4 ⟨v4, t4, rfl, hT4, hR, hg⟩
          have hJ := hI3.call hR hg
          have hc := hJ.cell 3 (v := .int .i64 0) rfl
          have hf := hJ.frz 3
          have hI4 : RJ (w.heap.size + 1) (w.heap.size + 1) L 73 wr (y4.setCell ⟨wr.heap.size, 3, none⟩ (.int .i64 v4)) t4 #[.int .i64 v1, .int .i64 v2, .int .i64 v3, .int .i64 v4] := hJ.set 3 (.int .i64 v4)
          have HT4 := Lib.hid hT4
          clear hJ hI3 hg hR hT4
          have hS5 : StepF (rdSn L) (.ok q) ⟨v1, v2, v3, v4⟩ t4 := (StepF.comp HT1.out (StepF.comp HT2.out (StepF.comp HT3.out (StepF.comp HT4.out (StepF.pure_ _ _)))))
          have HS5 := Lib.hid hS5
          clear hS5
          have k0 : (y4.setCell ⟨wr.heap.size, 3, none⟩ (.int .i64 v4)).cell? ⟨wr.heap.size, 0, none⟩ = some (Value.int .i64 v1) := hI4.cell 0 rfl
          have k1 : (y4.setCell ⟨wr.heap.size, 3, none⟩ (.int .i64 v4)).cell? ⟨wr.heap.size, 1, none⟩ = some (Value.int .i64 v2) := hI4.cell 1 rfl
          have k2 : (y4.setCell ⟨wr.heap.size, 3, none⟩ (.int .i64 v4)).cell? ⟨wr.heap.size, 2, none⟩ = some (Value.int .i64 v3) := hI4.cell 2 rfl
          have k3 : (y4.setCell ⟨wr.heap.size, 3, none⟩ (.int .i64 v4)).cell? ⟨wr.heap.size, 3, none⟩ = some (Value.int .i64 v4) := hI4.cell 3 rfl
          have HI := Lib.hid hI4
          have hown5 := hown.kept_lt HI.out.gr (by omega)
          have hK5 := HK.out.call HI.out.rd HI.out.gr
          have q5 : (y4.setCell ⟨wr.heap.size, 3, none⟩ (.int .i64 v4)).cell? ⟨w1.heap.size, 2, none⟩ = some (.slice A' j c') := hK5.rk.cell 2 rfl
          have HK5 := Lib.hid hK5
          clear hI4 hK5 hown
          go_wp2_with (refine wpList_stop 72 rfl ?_)
          refine ⟨?_⟩
          clear hc hf
          generalize y4.setCell ⟨wr.heap.size, 3, none⟩ (.int .i64 v4) = W4 at *
          obtain ⟨s5, hs5⟩ : ∃ s5, s5 = t4 := ⟨_, rfl⟩
          have hS5 := HS5.out
          rw [← hs5] at HI HK5 hS5
          clear hs5 HS5
          have hcl2 : ∀ l' s'', StepF (rdRep (rdSn L) (m3.toNat - (j + 1))) s5 l' s'' → StepF (rdRep (rdSn L) m3.toNat) c3 ((acc ++ [⟨v1, v2, v3, v4⟩]) ++ l') s'' := fun l' s'' hh => by
            rw [List.append_assoc]
            refine HCL.out ([⟨v1, v2, v3, v4⟩] ++ l') s'' ?_
            rw [hi]
            rw [show m3.toNat - (j + 1) = i by omega] at hh
            exact StepF.cons hS5 hh
          have HCL2 := Lib.hid hcl2
          clear hcl2 HCL hS5
          have ha : Below W4.heap.size W4 (W4.alloc (.cells #[.int .i64 v1, .int .i64 v2, .int .i64 v3, .int .i64 v4] 73)) := (Below.refl _ _).alloc (Nat.le_refl _) _
          have hone : Recs encSn (fun _ => True) (W4.alloc (.cells #[.int .i64 v1, .int .i64 v2, .int .i64 v3, .int .i64 v4] 73)) (.slice (some ⟨W4.heap.size, 0, none⟩) 1 1) [⟨v1, v2, v3, v4⟩] := ⟨_, 1, rfl, by simp, by simp [maxLen], Cs.lit _ _ _ _ _ trivial rfl⟩
          have HK6 := Lib.hid (HK5.out.ext ha)
          have Hl5 := Lib.hid hown5.len.1
          have hz5 := HK5.out.sz
          clear HK HI HK5
          go_wp2_with (refine wpList_appR (o := ⟨some 75, _, _, _, _, _⟩) encSn_len encSn_one (.agg #[.int .i64 0, .int .i64 0, .int .i64 0, .int .i64 0]) 32 _ _ 40 73 W3.heap.size acc [⟨v1, v2, v3, v4⟩] (some ⟨W4.heap.size, 0, none⟩) 1 1 (.slice A' j c') (j + 1) rfl rfl Try.underlying40 infoS_ rfl (by omega) rfl rfl (hown5.ext ha) hone (by rw [Hl5.out]) (by have := Hl5.out; omega) (by have := Hl5.out; omega) (by simp; omega) ?_; intro A9 c9 w9 hown9 hgr9 hat9 hc91 hc92; have hK9 := (HK6.out.grown hgr9 (fun b hb => (World.ownsRow.lt hown5 b hb).1)); have q9 : w9.frozen? ⟨w1.heap.size, 2, none⟩ = false := hK9.rk.frz 2; have q9' : w9.cell? ⟨w1.heap.size, 2, none⟩ = some (.slice A' j c') := hK9.rk.cell 2 rfl; have hgS : w9.grownBy (w9.setCell ⟨w1.heap.size, 2, none⟩ (.slice A9 (j + 1) c9)) (some w1.heap.size) := grown_set ⟨rfl, rfl, rfl, Nat.le_refl _, fun _ _ _ => rfl⟩; have HO9 := Lib.hid (hown9.kept_lt hgS (by omega)); have HK9 : RowKit.Hid (SK L w w1.heap.size W3.heap.size #[.slice A1 l1.length c1, .slice A2 l2.length c2', .slice A9 (j + 1) c9, .slice none 0 0] K3 (w9.setCell ⟨w1.heap.size, 2, none⟩ (.slice A9 (j + 1) c9)) s5) := Lib.hid (hK9.set 2 (.slice A9 (j + 1) c9)); clear hK9 hgS hown9)
          exact ⟨⟨j + 1, A9, c9, acc ++ [⟨v1, v2, v3, v4⟩], s5, by congr 1, by omega, HK9.out, HO9.out, fun _ _ => hbm, by omega, HCL2.out⟩, by simp [intOf]; omega⟩
        · have hfin : StepF (rdRep (rdSn L) m3.toNat) c3 acc sr := by
            rw [← List.append_nil acc]
            refine HCL.out [] sr ?_
            cases sr with
            | error x => exact StepF.er _ _ _
            | ok q =>
              have : ¬ (j : Int) < m3 := fun hx => hgo ⟨hx, q, rfl⟩
              rw [show m3.toNat - j = 0 by omega]
              exact StepF.pure_ _ _
          have hl := hown.len.1
          have HFIN : RowKit.Hid (∃ (A9 : Option Addr) (c9 : Nat) (l9 : List Snd) (s9 : Except Nat Nat), SK L w w1.heap.size W3.heap.size #[.slice A1 l1.length c1, .slice A2 l2.length c2', .slice A9 l9.length c9, .slice none 0 0] K3 wr s9 ∧ OwnR encSn 4 wr W3.heap.size 73 (.slice A9 l9.length c9) l9 ∧ StepF (rdRep (rdSn L) m3.toNat) c3 l9 s9) := Lib.hid ⟨A', c', acc, sr, by rw [hl]; exact hK, by rw [hl]; exact hown, hfin⟩
          by_cases hlt2 : (j : Int) < m3
          · have dk : decide ((j : Int) < m3) = true := by simpa using hlt2
            cases hs : sr with
            | ok q => exact (hgo ⟨hlt2, q, hs⟩).elim
            | error x =>
              obtain ⟨h0, u, pp, h1⟩ : RS (w.heap.size + 1) wr (w.heap.size + 1) L (.error x) := by rw [← hs]; exact hK.rk.rd
              have ce : wr.cell? ⟨w.heap.size + 1, 2, none⟩ = some (.int .i64 (x : Int)) := by rw [cell_of_row _ _ _ _ _ _ h1]; rfl
              have d' : ((x : Int) == 0) = false := by simp; omega
              clear h1 hgo hfin hnn hK HCL hown
              go_wp2
              go_meet
              case rel => exact HFIN.out
          · have dk : decide ((j : Int) < m3) = false := by simpa using hlt2
            clear hgo hfin hnn hK HCL hown
            go_wp2
            go_meet
            case rel => exact HFIN.out
    case rest =>
      obtain ⟨A3, c3', l3, s6, hKx, hO3, hS6⟩ := hcut
      have HSc := Lib.hid (StepF.comp (g := fun n q => rdRep (rdSn L) n.toNat q) HC3.out hS6)
      obtain ⟨K4, hKK4, hK4⟩ := hKx.next hO3
      clear hKx hO3 hS6 HC3
      generalize hwc2 : wc = W4 at *
      go_wp2_with fail
      refine (refcount_s (w.heap.size + 1) (w.heap.size + 1) s6 L W4 hK4.rk.rd).mono ?_
      rintro e u4 ⟨m4, c4, rfl, hS, hR, hg, hm4⟩
      have HC4 := Lib.hid hS
      have HK4 := Lib.hid (hK4.call hR hg)
      clear hK4 hS hR hg
      go_upto_block 4 with fail
      go_cut [] from 79 (fun wx => ∃ (A9 : Option Addr) (c9 : Nat) (l9 : List Ou) (s9 : Except Nat Nat), SK L w w1.heap.size W4.heap.size #[.slice A1 l1.length c1, .slice A2 l2.length c2', .slice A3 l3.length c3', .slice A9 l9.length c9] K4 wx s9 ∧ OwnR encOu 2 wx W4.heap.size 75 (.slice A9 l9.length c9) l9 ∧ StepF (rdRep (rdOu L) m4.toNat) c4 l9 s9)
      case first =>
        go_wp2_with fail
        go_loopw [13] (fun i wr => ∃ (j : Nat) (A' : Option Addr) (c' : Nat) (acc : List Ou) (sr : Except Nat Nat), i = .int .i64 j ∧ j ≤ m4.toNat ∧ SK L w w1.heap.size W4.heap.size #[.slice A1 l1.length c1, .slice A2 l2.length c2', .slice A3 l3.length c3', .slice A' j c'] K4 wr sr ∧ OwnR encOu 2 wr W4.heap.size 75 (.slice A' j c') acc ∧ (∀ q, sr = .ok q → 0 ≤ m4 ∧ m4 ≤ 1000000000) ∧ j ≤ 1000000000 ∧ ∀ l' s'', StepF (rdRep (rdOu L) (m4.toNat - j)) sr l' s'' → StepF (rdRep (rdOu L) m4.toNat) c4 (acc ++ l') s'') (fun i _ => m4.toNat - (intOf i).toNat)
        case atStart => exact ⟨0, none, 0, [], c4, rfl, by omega, HK4.out, OwnR.nil_ _ _ _, fun q hq => by have := hm4 q hq; omega, by omega, fun l' s'' hh => hh⟩
        case round =>
          clear hm4 HK4
          obtain ⟨j, A', c', acc, sr, rfl, hj, hK, hown, hnn, hk9, hcl⟩ := hrel
          have HCL := Lib.hid hcl
          clear hcl
          have hz := hK.sz
          have hlo := hK.lo
          have hrl := hK.rl
          by_cases hgo : (j : Int) < m4 ∧ ∃ q, sr = .ok q
          · obtain ⟨hlt2, q, rfl⟩ := hgo
            have dk : decide ((j : Int) < m4) = true := by simpa using hlt2
            have hbm := hnn q rfl
            have HK := Lib.hid hK
            have q1 : wr.cell? ⟨w1.heap.size, 3, none⟩ = some (.slice A' j c') := hK.rk.cell 3 rfl
            obtain ⟨hB', Ar, cr, h1, hby, hq, hL⟩ := hK.rk.rd
            have ce2 : wr.cell? ⟨w.heap.size + 1, 2, none⟩ = some (.int .i64 0) := by rw [cell_of_row _ _ _ _ _ _ h1]; rfl
            clear h1 hby hK
            obtain ⟨i, hi⟩ : ∃ i, m4.toNat - j = i + 1 := ⟨m4.toNat - j - 1, by omega⟩
            obtain ⟨X0, hX0, hI0⟩ := RJ.new #[.int .i64 0, .int .i64 0] 75 HK.out.rk.rd (by omega)
            go_wp2_with fail
            rw [← hX0]
            clear hX0 ce2 q1
            refine (refint_s (w.heap.size + 1) (w.heap.size + 1) (.ok q) L X0 hI0.rd).mono ?_
            rintro e y1 ⟨v1, t1, rfl, hT1, hR, hg⟩
            have hJ := hI0.call hR hg
            have hc := hJ.cell 0 (v := .int .i64 0) rfl
            have hf := hJ.frz 0
            have hI1 : RJ (w.heap.size + 1) (w.heap.size + 1) L 75 wr (y1.setCell ⟨wr.heap.size, 0, none⟩ (.int .i64 v1)) t1 #[.int .i64 v1, .int .i64 0] := hJ.set 0 (.int .i64 v1)
            have HT1 := Lib.hid hT1
            clear hJ hI0 hg hR hT1
            go_wp2_with fail
            clear hc hf
            generalize y1.setCell ⟨wr.heap.size, 0, none⟩ (.int .i64 v1) = X1 at *
            refine (refint_s (w.heap.size + 1) (w.heap.size + 1) t1 L X1 hI1.rd).mono ?_
            rintro e y2 ⟨v2, t2, rfl, hT2, hR, hg⟩
            have hJ := hI1.call hR hg
            have hc := hJ.cell 1 (v := .int .i64 0) rfl
            have hf := hJ.frz 1
            have hI2 : RJ (w.heap.size + 1) (w.heap.size + 1) L 75 wr (y2.setCell ⟨wr.heap.size, 1, none⟩ (.int .i64 v2)) t2 #[.int .i64 v1, .int .i64 v2] := hJ.set 1 (.int .i64 v2)
            have HT2 := Lib.hid hT2
            clear hJ hI1 hg hR hT2
            have hS5 : StepF (rdOu L) (.ok q) ⟨v1, v2⟩ t2 := (StepF.comp HT1.out (StepF.comp HT2.out (StepF.pure_ _ _)))
            have HS5 := Lib.hid hS5
            clear hS5
            have k0 : (y2.setCell ⟨wr.heap.size, 1, none⟩ (.int .i64 v2)).cell? ⟨wr.heap.size, 0, none⟩ = some (Value.int .i64 v1) := hI2.cell 0 rfl
            have k1 : (y2.setCell ⟨wr.heap.size, 1, none⟩ (.int .i64 v2)).cell? ⟨wr.heap.size, 1, none⟩ = some (Value.int .i64 v2) := hI2.cell 1 rfl
            have HI := Lib.hid hI2
            have hown5 := hown.kept_lt HI.out.gr (by omega)
            have hK5 := HK.out.call HI.out.rd HI.out.gr
            have q5 : (y2.setCell ⟨wr.heap.size, 1, none⟩ (.int .i64 v2)).cell? ⟨w1.heap.size, 3, none⟩ = some (.slice A' j c') := hK5.rk.cell 3 rfl
            have HK5 := Lib.hid hK5
            clear hI2 hK5 hown
            go_wp2_with (refine wpList_stop 98 rfl ?_)
            refine ⟨?_⟩
            clear hc hf
            generalize y2.setCell ⟨wr.heap.size, 1, none⟩ (.int .i64 v2) = W8 at *
            obtain ⟨s5, hs5⟩ : ∃ s5, s5 = t2 := ⟨_, rfl⟩
            have hS5 := HS5.out
            rw [← hs5] at HI HK5 hS5
            clear hs5 HS5
            have hcl2 : ∀ l' s'', StepF (rdRep (rdOu L) (m4.toNat - (j + 1))) s5 l' s'' → StepF (rdRep (rdOu L) m4.toNat) c4 ((acc ++ [⟨v1, v2⟩]) ++ l') s'' := fun l' s'' hh => by
              rw [List.append_assoc]
              refine HCL.out ([⟨v1, v2⟩] ++ l') s'' ?_
              rw [hi]
              rw [show m4.toNat - (j + 1) = i by omega] at hh
              exact StepF.cons hS5 hh
            have HCL2 := Lib.hid hcl2
            clear hcl2 HCL hS5
            have ha : Below W8.heap.size W8 (W8.alloc (.cells #[.int .i64 v1, .int .i64 v2] 75)) := (Below.refl _ _).alloc (Nat.le_refl _) _
            have hone : Recs encOu (fun _ => True) (W8.alloc (.cells #[.int .i64 v1, .int .i64 v2] 75)) (.slice (some ⟨W8.heap.size, 0, none⟩) 1 1) [⟨v1, v2⟩] := ⟨_, 1, rfl, by simp, by simp [maxLen], Cs.lit _ _ _ _ _ trivial rfl⟩
            have HK6 := Lib.hid (HK5.out.ext ha)
            have Hl5 := Lib.hid hown5.len.1
            have hz5 := HK5.out.sz
            clear HK HI HK5
            go_wp2_with (refine wpList_appR (o := ⟨some 101, _, _, _, _, _⟩) encOu_len encOu_one (.agg #[.int .i64 0, .int .i64 0]) 16 _ _ 41 75 W4.heap.size acc [⟨v1, v2⟩] (some ⟨W8.heap.size, 0, none⟩) 1 1 (.slice A' j c') (j + 1) rfl rfl Try.underlying41 infoO_ rfl (by omega) rfl rfl (hown5.ext ha) hone (by rw [Hl5.out]) (by have := Hl5.out; omega) (by have := Hl5.out; omega) (by simp; omega) ?_; intro A9 c9 w9 hown9 hgr9 hat9 hc91 hc92; have hK9 := (HK6.out.grown hgr9 (fun b hb => (World.ownsRow.lt hown5 b hb).1)); have q9 : w9.frozen? ⟨w1.heap.size, 3, none⟩ = false := hK9.rk.frz 3; have q9' : w9.cell? ⟨w1.heap.size, 3, none⟩ = some (.slice A' j c') := hK9.rk.cell 3 rfl; have hgS : w9.grownBy (w9.setCell ⟨w1.heap.size, 3, none⟩ (.slice A9 (j + 1) c9)) (some w1.heap.size) := grown_set ⟨rfl, rfl, rfl, Nat.le_refl _, fun _ _ _ => rfl⟩; have HO9 := Lib.hid (hown9.kept_lt hgS (by omega)); have HK9 : RowKit.Hid (SK L w w1.heap.size W4.heap.size #[.slice A1 l1.length c1, .slice A2 l2.length c2', .slice A3 l3.length c3', .slice A9 (j + 1) c9] K4 (w9.setCell ⟨w1.heap.size, 3, none⟩ (.slice A9 (j + 1) c9)) s5) := Lib.hid (hK9.set 3 (.slice A9 (j + 1) c9)); clear hK9 hgS hown9)
            exact ⟨⟨j + 1, A9, c9, acc ++ [⟨v1, v2⟩], s5, by congr 1, by omega, HK9.out, HO9.out, fun _ _ => hbm, by omega, HCL2.out⟩, by simp [intOf]; omega⟩
          · have hfin : StepF (rdRep (rdOu L) m4.toNat) c4 acc sr := by
              rw [← List.append_nil acc]
              refine HCL.out [] sr ?_
              cases sr with
              | error x => exact StepF.er _ _ _
              | ok q =>
                have : ¬ (j : Int) < m4 := fun hx => hgo ⟨hx, q, rfl⟩
                rw [show m4.toNat - j = 0 by omega]
                exact StepF.pure_ _ _
            have hl := hown.len.1
            have HFIN : RowKit.Hid (∃ (A9 : Option Addr) (c9 : Nat) (l9 : List Ou) (s9 : Except Nat Nat), SK L w w1.heap.size W4.heap.size #[.slice A1 l1.length c1, .slice A2 l2.length c2', .slice A3 l3.length c3', .slice A9 l9.length c9] K4 wr s9 ∧ OwnR encOu 2 wr W4.heap.size 75 (.slice A9 l9.length c9) l9 ∧ StepF (rdRep (rdOu L) m4.toNat) c4 l9 s9) := Lib.hid ⟨A', c', acc, sr, by rw [hl]; exact hK, by rw [hl]; exact hown, hfin⟩
            by_cases hlt2 : (j : Int) < m4
            · have dk : decide ((j : Int) < m4) = true := by simpa using hlt2
              cases hs : sr with
              | ok q => exact (hgo ⟨hlt2, q, hs⟩).elim
              | error x =>
                obtain ⟨h0, u, pp, h1⟩ : RS (w.heap.size + 1) wr (w.heap.size + 1) L (.error x) := by rw [← hs]; exact hK.rk.rd
                have ce : wr.cell? ⟨w.heap.size + 1, 2, none⟩ = some (.int .i64 (x : Int)) := by rw [cell_of_row _ _ _ _ _ _ h1]; rfl
                have d' : ((x : Int) == 0) = false := by simp; omega
                clear h1 hgo hfin hnn hK HCL hown
                go_wp2
                go_meet
                case rel => exact HFIN.out
            · have dk : decide ((j : Int) < m4) = false := by simpa using hlt2
              clear hgo hfin hnn hK HCL hown
              go_wp2
              go_meet
              case rel => exact HFIN.out
      case rest =>
        obtain ⟨A4, c4', l4, s8, hKx, hO4, hS8⟩ := hcut
        have HSd := Lib.hid (StepF.comp (g := fun n q => rdRep (rdOu L) n.toNat q) HC4.out hS8)
        obtain ⟨K5, hKK5, hK5⟩ := hKx.next hO4
        clear hKx hO4 hS8 HC4
        generalize hwc3 : wc = W5 at *
        have HSP : RowKit.Hid (StepF (rdSt L) (stB L k) ⟨l1, l2, l3, l4⟩ s8) := Lib.hid ((StepF.comp HSa.out (StepF.comp HSb.out (StepF.comp HSc.out (StepF.comp HSd.out (StepF.pure_ _ _))))).to (rdSt_eq L))
        have HK := Lib.hid hK5.rk
        have HS5 := Lib.hid hK5
        have HKK : RowKit.Hid (∀ w', K5 w' → Recs encZ (fun b => w1.heap.size < b) w' (.slice A1 l1.length c1) l1 ∧ Recs encEv (fun b => w1.heap.size < b) w' (.slice A2 l2.length c2') l2 ∧ Recs encSn (fun b => w1.heap.size < b) w' (.slice A3 l3.length c3') l3 ∧ Recs encOu (fun b => w1.heap.size < b) w' (.slice A4 l4.length c4') l4) := Lib.hid fun w' h5 => ⟨(hKK2 _ (hKK3 _ (hKK4 _ (hKK5 _ h5).1).1).1).2, (hKK3 _ (hKK4 _ (hKK5 _ h5).1).1).2, (hKK4 _ (hKK5 _ h5).1).2, (hKK5 _ h5).2⟩
        clear hK5 hKK2 hKK3 hKK4 hKK5 HSa HSb HSc HSd
        have hfk : ∀ (cs : Array Value), W5.drew.grownBy (W5.drew.setRow w.heap.size cs) (some w.heap.size) := fun cs => grown_setRow _ _ _
        cases hs : s8 with
        | error x =>
          rw [hs] at HK HSP
          have hrow := HK.out.rd
          obtain ⟨h0, u, pp, hrow⟩ := hrow
          have ce : W5.cell? ⟨(w.heap.size + 1), 2, none⟩ = some (.int .i64 (x : Int)) := by rw [cell_of_row _ _ _ _ _ _ hrow]; rfl
          have d : ((x : Int) != 0) = true := by simp; omega
          have HR := Lib.hid hrow
          have H4 : RowKit.Hid (W5.drew.heap[w.heap.size]? = some (.cells #[Value.slice none 0 0, Value.slice none 0 0, Value.slice none 0 0, Value.slice none 0 0] 43 (0, 0))) := Lib.hid HK.out.h4
          have hfin := HSP.out.err_
          clear hrow
          go_wp2_with fail
          refine wp_region_lexL (fun w' => w'.cell? ⟨(w.heap.size + 1), 2, none⟩ = some (.int .i64 (x : Int))) (by kernel_rfl) (by kernel_rfl) ce ?_
          repeat (first | (refine lexL_q0 rfl ?_; go_big_quiet_step (fail); refine wpQuiet_nil ?_) | (refine lexL_skip0 rfl rfl ?_; simp only [Act.put, List.setIfInBounds_toArray, List.set_cons_succ, List.set_cons_zero]))
          refine lexL_e rfl ?_
          go_wp2_with fail
          refine lexL_go ce ?_
          repeat (first | (refine lexL_q0 rfl ?_; go_big_quiet_step (fail); refine wpQuiet_nil ?_) | (refine lexL_skip0 rfl rfl ?_; simp only [Act.put, List.setIfInBounds_toArray, List.set_cons_succ, List.set_cons_zero]))
          refine lexL_ld (⟨(w.heap.size + 1), 2, none⟩) (.int .i64 (x : Int)) rfl rfl rfl (fun w' hS => run_ld1 (ag_err _) hS) ?_
          simp only [Act.put, List.setIfInBounds_toArray, List.set_cons_succ, List.set_cons_zero]
          repeat (first | (refine lexL_q0 rfl ?_; go_big_quiet_step (fail); refine wpQuiet_nil ?_) | (refine lexL_skip0 rfl rfl ?_; simp only [Act.put, List.setIfInBounds_toArray, List.set_cons_succ, List.set_cons_zero]))
          refine lexL_e rfl ?_
          refine wpList_store_row rfl 43 _ _ rfl w.heap.size 43 _ _ rfl rfl H4.out (by kernel_rfl) rfl (by simp [Value.oneCell']) ?_
          refine lexL_go ?_ ?_
          · have hr2 := (setRow_other W5.drew w.heap.size (w.heap.size + 1) #[Value.slice none 0 0, Value.slice none 0 0, Value.slice none 0 0, Value.slice none 0 0] HK.out.ne.1.symm).trans HR.out
            rw [cell_of_row _ _ _ _ _ _ hr2]; rfl
          simp only [Act.put]
          repeat (first | (refine lexL_q0 rfl ?_; go_big_quiet_step (fail); refine wpQuiet_nil ?_) | (refine lexL_skip0 rfl rfl ?_; simp only [Act.put, List.setIfInBounds_toArray, List.set_cons_succ, List.set_cons_zero]))
          refine lexL_nil ?_
          go_wp2_with fail
          go_wp2
          refine bodyPost_ret (results_ctt rfl rfl (run_ld_block (setRow_heap _ _ _ _ _ _ H4.out) Try.underlying43 rfl (by kernel_rfl))) rfl ?_
          rw [rdAt_st, hfin]
          exact ⟨rfl, Below.setRow HK.out.bl.drew (Nat.le_refl _) _⟩
        | ok q =>
          rw [hs] at HK HSP
          have hrow := HK.out.rd
          obtain ⟨hB, Ar, cr, hrow, _, hq, hL⟩ := hrow
          have ce : W5.cell? ⟨(w.heap.size + 1), 2, none⟩ = some (.int .i64 0) := by rw [cell_of_row _ _ _ _ _ _ hrow]; rfl
          have HR : RowKit.Hid (W5.drew.heap[(w.heap.size + 1)]? = _) := Lib.hid hrow
          have H4 : RowKit.Hid (W5.drew.heap[w.heap.size]? = some (.cells #[Value.slice none 0 0, Value.slice none 0 0, Value.slice none 0 0, Value.slice none 0 0] 43 (0, 0))) := Lib.hid HK.out.h4
          have H8 : RowKit.Hid (W5.drew.heap[w1.heap.size]? = some (.cells #[.slice A1 l1.length c1, .slice A2 l2.length c2', .slice A3 l3.length c3', .slice A4 l4.length c4'] 43 (0, 0))) := Lib.hid HK.out.h8
          have hfin := HSP.out.ok_
          clear hrow
          go_wp2_with fail
          refine wp_region_lexL (fun w' => w'.heap[w1.heap.size]? = some (.cells #[.slice A1 l1.length c1, .slice A2 l2.length c2', .slice A3 l3.length c3', .slice A4 l4.length c4'] 43 (0, 0)) ∧ w'.heap[(w.heap.size + 1)]? = _) (by kernel_rfl) (by kernel_rfl) ⟨H8.out, HR.out⟩ ?_
          repeat (first | (refine lexL_q0 rfl ?_; go_big_quiet_step (fail); refine wpQuiet_nil ?_) | (refine lexL_skip0 rfl rfl ?_; simp only [Act.put, List.setIfInBounds_toArray, List.set_cons_succ, List.set_cons_zero]))
          refine lexL_ld (⟨w1.heap.size, 0, none⟩) (.agg #[.slice A1 l1.length c1, .slice A2 l2.length c2', .slice A3 l3.length c3', .slice A4 l4.length c4']) rfl rfl rfl (fun w' hS => run_ld_block hS.1 Try.underlying43 rfl (by kernel_rfl)) ?_
          simp only [Act.put, List.setIfInBounds_toArray, List.set_cons_succ, List.set_cons_zero]
          repeat (first | (refine lexL_q0 rfl ?_; go_big_quiet_step (fail); refine wpQuiet_nil ?_) | (refine lexL_skip0 rfl rfl ?_; simp only [Act.put, List.setIfInBounds_toArray, List.set_cons_succ, List.set_cons_zero]))
          refine lexL_ld (⟨(w.heap.size + 1), 1, none⟩) (.int .i64 (q : Int)) rfl rfl rfl (fun w' hS => run_ld1 (ag_int _) (by rw [cell_of_row _ _ _ _ _ _ hS.2]; rfl)) ?_
          simp only [Act.put, List.setIfInBounds_toArray, List.set_cons_succ, List.set_cons_zero]
          repeat (first | (refine lexL_q0 rfl ?_; go_big_quiet_step (fail); refine wpQuiet_nil ?_) | (refine lexL_skip0 rfl rfl ?_; simp only [Act.put, List.setIfInBounds_toArray, List.set_cons_succ, List.set_cons_zero]))
          refine lexL_e rfl ?_
          refine wpList_store_row rfl 43 _ _ rfl w.heap.size 43 _ _ rfl rfl H4.out (by kernel_rfl) rfl (by simp [Value.oneCell']) ?_
          refine lexL_go ⟨(setRow_other W5.drew w.heap.size w1.heap.size #[.slice A1 l1.length c1, .slice A2 l2.length c2', .slice A3 l3.length c3', .slice A4 l4.length c4'] HK.out.ne.2.2.symm).trans H8.out, (setRow_other W5.drew w.heap.size (w.heap.size + 1) #[.slice A1 l1.length c1, .slice A2 l2.length c2', .slice A3 l3.length c3', .slice A4 l4.length c4'] HK.out.ne.1.symm).trans HR.out⟩ ?_
          simp only [Act.put]
          repeat (first | (refine lexL_q0 rfl ?_; go_big_quiet_step (fail); refine wpQuiet_nil ?_) | (refine lexL_skip0 rfl rfl ?_; simp only [Act.put, List.setIfInBounds_toArray, List.set_cons_succ, List.set_cons_zero]))
          refine lexL_nil ?_
          go_wp2_with fail
          go_wp2
          refine bodyPost_ret (results_ctt rfl rfl (run_ld_block (setRow_heap _ _ _ _ _ _ H4.out) Try.underlying43 rfl (by kernel_rfl))) rfl ?_
          rw [rdAt_st, hfin]
          have hk5 := HKK.out _ (HS5.out.hK W5 (W5.drew.setRow w.heap.size #[.slice A1 l1.length c1, .slice A2 l2.length c2', .slice A3 l3.length c3', .slice A4 l4.length c4']) (fun b hb hs => (hfk #[.slice A1 l1.length c1, .slice A2 l2.length c2', .slice A3 l3.length c3', .slice A4 l4.length c4']).block b hb (fun e => by have := HS5.out.rl; cases e; omega)) HS5.out.kp)
          exact ⟨⟨_, rfl, A1, c1, A2, c2', A3, c3', A4, c4', rfl, hk5.1.mono (fun b _ hs => by omega), hk5.2.1.mono (fun b _ hs => by omega), hk5.2.2.1.mono (fun b _ hs => by omega), hk5.2.2.2.mono (fun b _ hs => by omega)⟩, Below.setRow HK.out.bl.drew (Nat.le_refl _) _⟩
end Go.Proofs.Ytgjjfjibfleonaa
