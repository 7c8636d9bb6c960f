/-
  rollbacknetlaw10.tears: tears for files, drawn.
-/
import Derived.Test.YtmbbngdhdhgliaaCrash
import Derived.Test.YtmbbngdhdhgliaaLexTail
import Derived.Test.YtmbbngdhdhgliaaDraw
namespace Go.Proofs.Ytmbbngdhdhgliaa
open Go.RowKit
set_option maxRecDepth 100000
set_option linter.unusedVariables false

theorem encT_one' (x : TV) : ∀ u ∈ encT x, u.oneCell' = true := by
  intro u hu
  simp [encT] at hu
  rcases hu with rfl | rfl <;> rfl
/-- the tears that are drawn so far: the row of the call's own, and the lists of lost sectors elsewhere -/
def TrsOwn (base : Nat) (w : World) (v : Value) (ts : List Tear) : Prop := ∃ xs, OwnR encT 2 w base 39 v xs ∧ xs.length = ts.length ∧ ∀ (i : Nat) (x : TV) (t : Tear), xs[i]? = some x → ts[i]? = some t → x.keep = t.keep ∧ Recs encZ (fun b => base ≤ b ∧ v.ownBlock ≠ some b) w (.slice x.A x.n x.c) t.lost
theorem TrsOwn.nil_ (base : Nat) (w : World) : TrsOwn base w (.slice none 0 0) [] := ⟨[], OwnR.nil_ _ _ _, rfl, fun i x t hx => by simp at hx⟩
theorem TrsOwn.trs {base : Nat} {w : World} {v : Value} {ts : List Tear} (h : TrsOwn base w v ts) : Trs (base ≤ ·) w v ts := by
  obtain ⟨xs, h1, h2, h3⟩ := h
  exact ⟨xs, h1.recs.mono (fun _ _ h => h.1), h2, fun i x t hx ht => ⟨(h3 i x t hx ht).1, (h3 i x t hx ht).2.mono (fun _ _ h => h.1)⟩⟩
theorem TrsOwn.len {base : Nat} {w : World} {A : Option Addr} {n c : Nat} {ts : List Tear} (h : TrsOwn base w (.slice A n c) ts) : ts.length = n ∧ n ≤ c ∧ c ≤ 9223372036854775807 := h.trs.len
/-- a block below base may change -/
theorem TrsOwn.kept {base g : Nat} {w w' : World} {v : Value} {ts : List Tear} (h : TrsOwn base w v ts) (hg : w.grownBy w' (some g)) (hlt : g < base) : TrsOwn base w' v ts := by
  obtain ⟨xs, h1, h2, h3⟩ := h
  refine ⟨xs, h1.kept hg ?_, h2, fun i x t hx ht => ⟨(h3 i x t hx ht).1, (h3 i x t hx ht).2.keep (fun b hb hs => hg.block b hb (fun e => by cases e; omega))⟩⟩
  rcases Option.eq_none_or_eq_some v.ownBlock with h0 | ⟨m, h0⟩
  · exact .inl h0
  · refine .inr (fun e => ?_)
    rw [h0] at e
    cases e
    have := (World.ownsRow.lt h1 _ h0).1
    omega
theorem lost_keep {base : Nat} {w w' : World} {v v' : Value} {u : Value} {l : List Int} (h : Recs encZ (fun b => base ≤ b ∧ v.ownBlock ≠ some b) w u l) (hg : w.grownBy w' v.ownBlock) (hat : v'.ownBlock = v.ownBlock ∨ v'.ownBlock = some w.heap.size) :
    Recs encZ (fun b => base ≤ b ∧ v'.ownBlock ≠ some b) w' u l := by
  have h1 : Recs encZ (fun b => base ≤ b ∧ v.ownBlock ≠ some b ∧ b < w.heap.size) w u l := h.mono (fun b hb hs => ⟨hs.1, hs.2, hb⟩)
  refine (h1.keep (fun b hb hs => hg.block b hb (fun e => hs.2.1 e.symm))).mono (fun b _ hs => ⟨hs.1, fun e => ?_⟩)
  rcases hat with h2 | h2
  · exact hs.2.1 (h2.symm.trans e)
  · rw [h2] at e
    cases e
    exact Nat.lt_irrefl _ hs.2.2
theorem TrsOwn.push {base : Nat} {w w' : World} {v v' : Value} {ts : List Tear} {xs : List TV} (hx : xs.length = ts.length ∧ ∀ (i : Nat) (x : TV) (t : Tear), xs[i]? = some x → ts[i]? = some t → x.keep = t.keep ∧ Recs encZ (fun b => base ≤ b ∧ v.ownBlock ≠ some b) w (.slice x.A x.n x.c) t.lost)
    (x : TV) (t : Tear) (h1 : x.keep = t.keep) (h2 : Recs encZ (fun b => base ≤ b ∧ v.ownBlock ≠ some b) w (.slice x.A x.n x.c) t.lost) (hown : OwnR encT 2 w' base 39 v' (xs ++ [x])) (hg : w.grownBy w' v.ownBlock) (hat : v'.ownBlock = v.ownBlock ∨ v'.ownBlock = some w.heap.size) : TrsOwn base w' v' (ts ++ [t]) := by
  refine ⟨_, hown, by simp [hx.1], fun i x' t' hx' ht' => ?_⟩
  rcases Nat.lt_or_ge i xs.length with hi | hi
  · rw [List.getElem?_append_left hi] at hx'
    rw [List.getElem?_append_left (by omega)] at ht'
    obtain ⟨g1, g2⟩ := hx.2 i x' t' hx' ht'
    exact ⟨g1, lost_keep g2 hg hat⟩
  · rw [List.getElem?_append_right hi] at hx'
    rw [List.getElem?_append_right (by omega)] at ht'
    have hi' : i - xs.length = 0 := by
      rcases Nat.eq_zero_or_pos (i - xs.length) with h | h
      · exact h
      · rw [List.getElem?_eq_none (by simp; omega)] at hx'
        cases hx'
    rw [hi'] at hx'
    rw [← hx.1, hi'] at ht'
    cases hx'
    cases ht'
    exact ⟨h1, lost_keep h2 hg hat⟩
theorem infoTear : (Try.prog.info? 39).map (fun i => (i.zero, i.size, i.bytes)) = some (some (.agg #[.int .i64 0, .slice none 0 0]), 2, 32) := by kernel_rfl
theorem infoIn : (Try.prog.info? 3).map (fun i => (i.zero, i.size, i.bytes)) = some (some (.int .i64 0), 1, 8) := by kernel_rfl

set_option maxHeartbeats 4000000 in
theorem tears_any (B g n : Nat) (w : World) (h : Cod B w g) (hn : n ≤ 1000) :
    Calls Try.prog 18 #[.pointer (some ⟨g, 0, none⟩), .int .i64 (n : Int)] w fun e w' => ∃ A c ts, e = .returned (.slice A n c) ∧ Trs (w.heap.size ≤ ·) w' (.slice A n c) ts ∧ Cod B w' g ∧ w.grownBy w' (some g) := by
  have hglt := h.lt
  go_enter Try.func18, Try.ntmps18
  go_wp2
  go_loopw [5, 6] (fun v i wr => ∃ (k : Nat) (A : Option Addr) (c : Nat) (ts : List Tear), i = .int .i64 k ∧ v = .slice A k c ∧ k ≤ n ∧ TrsOwn w.heap.size wr (.slice A k c) ts ∧ Cod B wr g ∧ w.grownBy wr (some g)) (fun _ i _ => n - (intOf i).toNat)
  case atStart => exact ⟨0, none, 0, [], rfl, rfl, by omega, TrsOwn.nil_ _ _, h, grown_refl _ _⟩
  case round =>
    obtain ⟨k, A, c, ts, rfl, rfl, hk, hT, hC, hgr⟩ := hrel
    by_cases hlt : k < n
    · have dk : decide ((k : Int) < (n : Int)) = true := by simp; omega
      go_wp2_with fail
      refine (codnext_any B g 60 _ hC (by omega) (by omega)).mono ?_
      rintro e w2 ⟨x, rfl, hx, hC2, hg2⟩
      have hT2 := hT.kept hg2 hglt
      have hgr2 := grown_trans hgr hg2
      clear hT hC hg2 hgr
      have ha : ∀ o, Below w2.heap.size w2 (w2.alloc o) := fun o => (Below.refl _ _).alloc (Nat.le_refl _) o
      have hnew : ∀ o, (w2.alloc o).heap[w2.heap.size]? = some o := fun o => heap_alloc_new _ _
      have hg2T : g < w2.heap.size := hC2.lt
      have hs2 := hgr2.size
      go_wp2_with fail
      refine (codnext_any B g 3 _ (hC2.ext (ha _)) (by omega) (by omega)).mono ?_
      rintro e w4 ⟨y, rfl, hy, hC4, hg4⟩
      have hg24 := grown_trans (grown_of_below (ha _) (some g)) hg4
      have hr4 := (hg4.block w2.heap.size (by simp) (by simp; omega)).trans (hnew _)
      clear ha hnew hg4
      obtain ⟨T, hTs⟩ : ∃ T, T = w2.heap.size := ⟨_, rfl⟩
      have HTs := Lib.hid hTs
      rw [← hTs] at hr4 hg2T hs2
      rw [← hTs]
      clear hTs
      go_wp2
      go_loopw [8] (fun v wr => ∃ (m n' : Nat) (A' : Option Addr) (c' : Nat) (ls : List Int), v = .int .i64 m ∧ n' + m ≤ 3 ∧ wr.heap[T]? = some (.cells #[.int .i64 ((x : Int) - 2), .slice A' n' c'] 39 (0, 0)) ∧ OwnR encZ 1 wr (T + 1) 3 (.slice A' n' c') ls ∧ Cod B wr g ∧ w2.grownBy wr (some g)) (fun v _ => (intOf v).toNat)
      case atStart => exact ⟨y, 0, none, 0, [], rfl, by omega, hr4, OwnR.nil_ _ _ _, hC4, hg24⟩
      case round =>
        clear hC4 hg24 hr4
        obtain ⟨m, n', A', c', ls, rfl, hnm, hr, hown, hC, hg⟩ := hrel
        have q1 : wr.cell? ⟨T, 1, none⟩ = some (.slice A' n' c') := by rw [cell_of_row _ _ _ _ _ _ hr]; rfl
        have hTlt : T < wr.heap.size := (Array.getElem?_eq_some_iff.1 hr).1
        by_cases hlt2 : 0 < m
        · have dm : decide ((0 : Int) < (m : Int)) = true := by simp; omega
          have Hr := Lib.hid hr
          clear hr
          go_wp2_with fail
          refine wp_region_tail (fun w' => w'.cell? ⟨T, 1, none⟩ = some (.slice A' n' c')) 6 (by kernel_rfl) (by kernel_rfl) (by kernel_rfl) (by decide) q1 ?_
          simp only [List.take_succ_cons, List.take_zero, List.drop_succ_cons, List.drop_zero]
          repeat (first | (refine lexL_q0 rfl ?_; go_big_quiet_step (fail); refine wpQuiet_nil ?_) | (refine lexL_skip0 rfl rfl ?_; simp only [Act.put, List.setIfInBounds_toArray, List.set_cons_succ, List.set_cons_zero]))
          refine lexL_ld (⟨T, 1, none⟩) (.slice A' n' c') rfl rfl rfl (fun w' hw' => run_ld1 (by kernel_rfl) hw') ?_
          simp only [Act.put, List.setIfInBounds_toArray, List.set_cons_succ, List.set_cons_zero]
          repeat (first | (refine lexL_q0 rfl ?_; go_big_quiet_step (fail); refine wpQuiet_nil ?_) | (refine lexL_skip0 rfl rfl ?_; simp only [Act.put, List.setIfInBounds_toArray, List.set_cons_succ, List.set_cons_zero]))
          refine lexL_e rfl ?_
          go_wp2_with fail
          refine (codnext_any B g 5 _ hC.drew (by omega) (by omega)).mono ?_
          rintro e w5 ⟨z, rfl, hz, hC5, hg5⟩
          have hg5' : wr.grownBy w5 (some g) := ⟨hg5.os, hg5.tape, hg5.output, hg5.size, hg5.block⟩
          have hr5 := (hg5'.block T hTlt (by simp; omega)).trans Hr.out
          have q5 : w5.cell? ⟨T, 1, none⟩ = some (.slice A' n' c') := by rw [cell_of_row _ _ _ _ _ _ hr5]; rfl
          have hown5 := hown.kept hg5' (by
            rcases Option.eq_none_or_eq_some (Value.slice A' n' c').ownBlock with h0 | ⟨b, h0⟩
            · exact .inl h0
            · refine .inr (fun e => ?_)
              rw [h0] at e
              cases e
              have := (World.ownsRow.lt hown _ h0).1
              omega)
          have hs5 := hg5'.size
          have Hr5 := Lib.hid hr5
          clear hr5 hown hg5
          go_wp2_with fail
          refine lexL_go (q5) ?_
          repeat (first | (refine lexL_q0 rfl ?_; go_big_quiet_step (fail); refine wpQuiet_nil ?_) | (refine lexL_skip0 rfl rfl ?_; simp only [Act.put, List.setIfInBounds_toArray, List.set_cons_succ, List.set_cons_zero]))
          refine lexL_e rfl ?_
          go_wp2_with fail
          have ha5 : ∀ o, Below w5.heap.size w5 (w5.alloc o) := fun o => (Below.refl _ _).alloc (Nat.le_refl _) o
          have hr6 := ((ha5 (.cells #[.int .i64 ((z : Int) - 1)] 3)).block T (by omega)).trans Hr5.out
          have q6 : (w5.alloc (.cells #[.int .i64 ((z : Int) - 1)] 3)).cell? ⟨T, 1, none⟩ = some (.slice A' n' c') := by rw [cell_of_row _ _ _ _ _ _ hr6]; rfl
          have hone : Recs encZ (fun _ => True) (w5.alloc (.cells #[.int .i64 ((z : Int) - 1)] 3)) (.slice (some ⟨w5.heap.size, 0, none⟩) 1 1) [(z : Int) - 1] := ⟨_, 1, rfl, by simp, by simp [maxLen], Cs.lit _ _ _ _ _ trivial rfl⟩
          have Hr6 := Lib.hid hr6
          have hl5 := hown5.len
          have Hl5 := Lib.hid hl5.1
          clear hr6
          refine lexL_go q6 ?_
          clear q6 q5 q1
          refine lexL_nil ?_
          refine wpList_appR encZ_len encZ_one (.int .i64 0) 8 _ _ 31 3 (T + 1) ls [(z : Int) - 1] (some ⟨w5.heap.size, 0, none⟩) 1 1 (.slice A' n' c') (n' + 1) rfl rfl Try.underlying31 infoIn rfl (by omega) rfl rfl (hown5.ext (ha5 _)) hone (by rw [Hl5.out]) (by have := Hl5.out; omega) (by have := Hl5.out; omega) (by simp; omega) ?_
          intro A9 c9 w9 hown9 hgr9 hat9 hc91 hc92
          have hne9 : (Value.slice A' n' c').ownBlock ≠ some T := fun e => by have := (World.ownsRow.lt hown5 _ e).1; omega
          have hneg9 : ∀ b, (Value.slice A' n' c').ownBlock = some b → T + 1 ≤ b := fun b e => (World.ownsRow.lt hown5 _ e).1
          have hr9 := (hgr9.block T (by simp; omega) (fun e => hne9 e.symm)).trans Hr6.out
          have q9 : w9.frozen? ⟨T, 1, none⟩ = false := frozen_of_row _ _ _ _ _ hr9
          have q9' : w9.cell? ⟨T, 1, none⟩ = some (.slice A' n' c') := by rw [cell_of_row _ _ _ _ _ _ hr9]; rfl
          have Hr9 := Lib.hid hr9
          clear hr9
          have hgS : w9.grownBy (w9.setCell ⟨T, 1, none⟩ (.slice A9 (n' + 1) c9)) (some T) := grown_set (grown_refl _ _)
          have hT9 : (w9.setCell ⟨T, 1, none⟩ (.slice A9 (n' + 1) c9)).heap[T]? = some (.cells #[.int .i64 ((x : Int) - 2), .slice A9 (n' + 1) c9] 39 (0, 0)) := heap_setCell_same _ _ _ _ _ _ Hr9.out
          have hO9 := hown9.kept hgS (by
            rcases Option.eq_none_or_eq_some (Value.slice A9 (n' + 1) c9).ownBlock with h0 | ⟨b, h0⟩
            · exact .inl h0
            · refine .inr (fun e => ?_)
              rw [h0] at e
              cases e
              have := (World.ownsRow.lt hown9 _ h0).1
              omega)
          have hC9 := ((hC5.ext (ha5 (.cells #[.int .i64 ((z : Int) - 1)] 3))).grown hgr9 (fun b hb => by have := hneg9 b hb; have := hC5.1; omega)).grown hgS (fun b hb => by cases hb; have := hC5.1; omega)
          have hG9 := grown_new (grown_new (grown_trans (grown_trans hg hg5') (grown_of_below (ha5 (.cells #[.int .i64 ((z : Int) - 1)] 3)) _)) hgr9 (fun b hb => by have := hneg9 b hb; have := HTs.out; omega)) hgS (fun b hb => by cases hb; have := HTs.out; omega)
          have HG9 := Lib.hid hG9
          have HC9 := Lib.hid hC9
          have HO9 := Lib.hid hO9
          have HT9 := Lib.hid hT9
          clear hG9 hC9 hO9 hT9 hgS hC5 ha5 hgr9 hat9 hown9 hone hown5
          go_wp2_with fail
          rw [Only_normal]
          go_wp2
          go_roundw
          case rel => exact ⟨m - 1, n' + 1, A9, c9, ls ++ [(z : Int) - 1], by congr 1; omega, by omega, HT9.out, HO9.out, HC9.out, HG9.out⟩
          case measure => simp [intOf]; omega
        · obtain rfl : m = 0 := by omega
          have hT3 := hT2.kept hg hglt
          have hg3 := grown_trans hgr2 hg
          have hlost : Recs encZ (fun b => w.heap.size ≤ b ∧ (Value.slice A k c).ownBlock ≠ some b) wr (.slice A' n' c') ls := hown.recs.mono (fun b _ hs => ⟨by omega, fun e => by
            obtain ⟨xs, h1, _⟩ := hT2
            have := (World.ownsRow.lt h1 _ e).2
            have := HTs.out
            omega⟩)
          have ha6 : ∀ o, Below wr.heap.size wr (wr.alloc o) := fun o => (Below.refl _ _).alloc (Nat.le_refl _) o
          have hlk := hT3.len
          obtain ⟨xs, hxo, hxl, hxe⟩ := hT3
          have hlx : xs.length = k := by omega
          have Hlx := Lib.hid hlx
          have q0 : wr.cell? ⟨T, 0, none⟩ = some (.int .i64 ((x : Int) - 2)) := by rw [cell_of_row _ _ _ _ _ _ hr]; rfl
          have hone : Recs encT (fun _ => True) (wr.alloc (.cells #[.int .i64 ((x : Int) - 2), .slice A' n' c'] 39)) (.slice (some ⟨wr.heap.size, 0, none⟩) 1 1) [⟨(x : Int) - 2, A', n', c'⟩] := ⟨_, 1, rfl, by simp, by simp [maxLen], Cs.lit _ _ _ _ _ trivial rfl⟩
          have hszr := hg3.size
          clear hr hlx
          go_wp2_with (refine wpList_appR (o := ⟨some 35, _, _, _, _, _⟩) encT_len encT_one' (.agg #[.int .i64 0, .slice none 0 0]) 32 _ _ 25 39 w.heap.size xs [⟨(x : Int) - 2, A', n', c'⟩] (some ⟨wr.heap.size, 0, none⟩) 1 1 (.slice A k c) (k + 1) rfl rfl Try.underlying25 infoTear rfl (by omega) rfl rfl (hxo.ext (ha6 _)) hone (by rw [Hlx.out]) (by have := Hlx.out; omega) (by have := Hlx.out; omega) (by simp; omega) ?_; intro A9 c9 w9 hown9 hgr9 hat9 hc91 hc92)
          have hrow : ∀ b, (Value.slice A k c).ownBlock = some b → w.heap.size ≤ b := fun b e => (World.ownsRow.lt hxo _ e).1
          have hB := hC.1
          refine ⟨⟨k + 1, A9, c9, ts ++ [⟨(x : Int) - 2, ls⟩], by congr 1, rfl, by omega, ?_, ?_, ?_⟩, by simp [intOf]; omega⟩
          · exact TrsOwn.push ⟨hxl, fun i x' t' hx' ht' => ⟨(hxe i x' t' hx' ht').1, (hxe i x' t' hx' ht').2.ext (ha6 _)⟩⟩ ⟨(x : Int) - 2, A', n', c'⟩ ⟨(x : Int) - 2, ls⟩ rfl (hlost.ext (ha6 _)) hown9 hgr9 hat9
          · exact (hC.ext (ha6 _)).grown hgr9 (fun b hb => by have := hrow b hb; omega)
          · exact grown_new (grown_trans hg3 (grown_of_below (ha6 _) _)) hgr9 (fun b hb => .inl (hrow b hb))
    · obtain rfl : k = n := by omega
      go_wp2
      go_ret
      exact ⟨A, c, ts, rfl, hT.trs, hC, hgr⟩
theorem tornL_nil (k : Int) (l : List Int) : tornL [] k l = [] := by
  unfold tornL
  rw [List.take_nil]
  rfl
/-- two files, of which the first one is empty -/
theorem crash_two (f : Fil) (ts : List Tear) : crashL [zFil, f] ts = [zFil, ⟨f.s ++ tornL f.p (tearOf ts 1).keep (tearOf ts 1).lost, []⟩] := by
  simp [crashL, crashF, zFil, tornL_nil]
end Go.Proofs.Ytmbbngdhdhgliaa
