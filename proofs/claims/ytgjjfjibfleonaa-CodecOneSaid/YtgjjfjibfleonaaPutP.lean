/-
  PutEvent, PutPages of package codec and of the document.
-/
import Derived.Test.YtgjjfjibfleonaaPutE
import Derived.Test.YtgjjfjibfleonaaLexTwo
namespace Go.Proofs.Ytgjjfjibfleonaa
open Go.RowKit
set_option maxRecDepth 100000
set_option linter.unusedVariables false

theorem clip_acc {w w0 : World} {A : Option Addr} {n c : Nat} {l : List UInt8} {S : Nat → Prop} (base : Nat) (hb : Bytes S w (.slice A n c) l) (hn : n ≤ 10000000000) : Acc w base none (.slice A n n) l := by
  have hl := hb.len.1
  subst hl
  exact .inr ⟨rfl, ⟨A, rfl⟩, (hb.clip (c' := l.length) (Nat.le_refl _) (by unfold maxLen; omega)).mono (fun _ _ _ => trivial)⟩
theorem avoid_none {w : World} {α : Type} {enc : α → List Value} {S : Nat → Prop} {v : Value} {l : List α} (h : Recs enc S w v l) : Recs enc (fun b => (none : Option Nat) ≠ some b) w v l := h.mono (fun _ _ _ => by simp)
theorem avoid_acc {w : World} {base : Nat} {row : Option Nat} {v u : Value} {l : List UInt8} {α : Type} {enc : α → List Value} {zs : List α} (h : Acc w base row v l) (hu : Recs enc (· < base) w u zs) : Recs enc (fun b => row ≠ some b) w u zs := hu.mono (fun b _ hb => h.avoid (.inl hb))

set_option maxHeartbeats 1000000 in
theorem putEvent_any (A : Option Addr) (n c : Nat) (l : List UInt8) (S : Nat → Prop) (w : World) (hv : Bytes S w (.slice A n c) l) (e : Ev) (hz : ∀ z ∈ e.l, InR z) (hlen : n ≤ 1000000000) :
    Calls Try.prog 14 #[.slice A n c, evV e] w fun r w' => ∃ v', r = .returned v' ∧ Bytes (fun _ => True) w' v' (l ++ encs e.l) ∧ Below w.heap.size w w' := by
  have hl := hv.len
  have HL := Lib.hid hl.1
  obtain ⟨W, hW⟩ : ∃ W, W = w.alloc (.cells #[.int .i64 e.k0, .int .i64 e.k1, .int .i64 e.k2, .int .i64 e.k3, .int .i64 e.k4, .int .i64 e.k5, .int .i64 e.k6] 35) := ⟨_, rfl⟩
  have haW : Below w.heap.size w W := by rw [hW]; exact (Below.refl _ _).alloc (Nat.le_refl _) _
  have rW : W.heap[w.heap.size]? = some (.cells #[.int .i64 e.k0, .int .i64 e.k1, .int .i64 e.k2, .int .i64 e.k3, .int .i64 e.k4, .int .i64 e.k5, .int .i64 e.k6] 35 (0, 0)) := by rw [hW]; exact heap_alloc_new _ _
  have hsW : w.heap.size < W.heap.size := (Array.getElem?_eq_some_iff.1 rW).1
  have RW := Lib.hid rW
  clear rW
  unfold evV
  go_enter Try.func14, Try.ntmps14
  go_wp2_with fail
  rw [← hW]
  clear hW
  refine wp_region_lexL (Below W.heap.size W) (by kernel_rfl) (by kernel_rfl) ((Below.refl _ _).drew) ?_
  repeat (first | (refine lexL_q0 rfl ?_; go_big_quiet_step (fail); refine wpQuiet_nil ?_) | (refine lexL_skip0 rfl rfl ?_; simp only [Act.put, List.setIfInBounds_toArray, List.set_cons_succ, List.set_cons_zero]))
  refine lexL_e rfl ?_
  go_wp2_with fail
  refine (clip_any A n c W.drew hl.2.1 hl.2.2).mono ?_
  rintro r w1 ⟨rfl, rfl⟩
  go_wp2_with fail
  refine lexL_go ((Below.refl _ _).drew) ?_
  repeat (first | (refine lexL_q0 rfl ?_; go_big_quiet_step (fail); refine wpQuiet_nil ?_) | (refine lexL_skip0 rfl rfl ?_; simp only [Act.put, List.setIfInBounds_toArray, List.set_cons_succ, List.set_cons_zero]))
  refine lexL_ld (⟨w.heap.size, 0, none⟩) (.agg #[.int .i64 e.k0, .int .i64 e.k1, .int .i64 e.k2, .int .i64 e.k3, .int .i64 e.k4, .int .i64 e.k5, .int .i64 e.k6]) rfl rfl rfl (fun w' hS => run_ld_block ((hS.block _ hsW).trans RW.out) Try.underlying35 rfl (by kernel_rfl)) ?_
  simp only [Act.put, List.setIfInBounds_toArray, List.set_cons_succ, List.set_cons_zero]
  repeat (first | (refine lexL_q0 rfl ?_; go_big_quiet_step (fail); refine wpQuiet_nil ?_) | (refine lexL_skip0 rfl rfl ?_; simp only [Act.put, List.setIfInBounds_toArray, List.set_cons_succ, List.set_cons_zero]))
  refine lexL_e rfl ?_
  go_wp2_with fail
  have hput := putEvent_b W W.drew none (.slice A n n) l (Below.refl _ _).drew (clip_acc (w0 := W) W.heap.size (hv.ext (Below.ext haW (Below.refl _ _).drew)) (by omega)) e hz (by have := HL.out; omega)
  unfold evV at hput
  refine hput.mono ?_
  rintro r w2 ⟨v', row', rfl, h2, h3⟩
  go_wp2_with fail
  refine lexL_go (h3) ?_
  repeat (first | (refine lexL_q0 rfl ?_; go_big_quiet_step (fail); refine wpQuiet_nil ?_) | (refine lexL_skip0 rfl rfl ?_; simp only [Act.put, List.setIfInBounds_toArray, List.set_cons_succ, List.set_cons_zero]))
  refine lexL_nil ?_
  go_wp2_with fail
  go_wp2
  go_ret
  exact ⟨v', rfl, h2.bytes, Below.ext haW h3⟩

/-! ### pages -/
structure PgV where
  num : Int
  A : Option Addr
  n : Nat
  c : Nat
deriving Inhabited
def encPg (x : PgV) : List Value := [.int .i64 x.num, .slice x.A x.n x.c]
theorem encPg_len (x : PgV) : (encPg x).length = 2 := rfl
structure Pg where
  num : Int
  cells : List Int
deriving DecidableEq, Inhabited
def Pg.l (p : Pg) : List Int := [p.num, (p.cells.length : Int)] ++ p.cells
def pgL (ps : List Pg) : List Int := [(ps.length : Int)] ++ ps.flatMap Pg.l
/-- pages in memory -/
def Pgs (S : Nat → Prop) (w : World) (v : Value) (ps : List Pg) : Prop := ∃ xs, Recs encPg S w v xs ∧ xs.length = ps.length ∧ ∀ (i : Nat) (x : PgV) (p : Pg), xs[i]? = some x → ps[i]? = some p → x.num = p.num ∧ Recs encZ S w (.slice x.A x.n x.c) p.cells
theorem Pgs.ext {S : Nat → Prop} {w w' : World} {v : Value} {ps : List Pg} (h : Pgs S w v ps) (hb : Below w.heap.size w w') : Pgs S w' v ps := by
  obtain ⟨xs, h1, h2, h3⟩ := h
  exact ⟨xs, h1.ext hb, h2, fun i x p hx hp => ⟨(h3 i x p hx hp).1, (h3 i x p hx hp).2.ext hb⟩⟩
theorem Pgs.len {S : Nat → Prop} {w : World} {A : Option Addr} {n c : Nat} {ps : List Pg} (h : Pgs S w (.slice A n c) ps) : ps.length = n ∧ n ≤ c ∧ c ≤ 9223372036854775807 := by
  obtain ⟨xs, h1, h2, h3⟩ := h
  have := h1.len
  omega
theorem Pgs.at_ {S : Nat → Prop} {w : World} {A : Option Addr} {n c k : Nat} {ps : List Pg} (h : Pgs S w (.slice A n c) ps) (hk : k < n) :
    ∃ (b off : Nat) (x : PgV) (p : Pg), A = some ⟨b, off, none⟩ ∧ S b ∧ b < w.heap.size ∧ ps[k]? = some p ∧ x.num = p.num ∧ Recs encZ S w (.slice x.A x.n x.c) p.cells ∧ w.cell? ⟨b, off + k * 2, none⟩ = some (.int .i64 x.num) ∧ w.cell? ⟨b, off + k * 2 + 1, none⟩ = some (.slice x.A x.n x.c) := by
  have hl := h.len
  obtain ⟨xs, h1, h2, h3⟩ := h
  obtain ⟨b, off, x, rfl, hs, hb, hx, hc⟩ := h1.at_ encPg_len (j := k) (by omega) (by omega)
  have hf : ps[k]? = some ps[k] := List.getElem?_eq_getElem (by omega)
  exact ⟨b, off, x, _, rfl, hs, hb, hf, (h3 k x _ hx hf).1, (h3 k x _ hx hf).2, hc 0 _ rfl, hc 1 _ rfl⟩
/-- the pages' numbers are ints, and their cells few -/
def PgOk (p : Pg) : Prop := InR p.num ∧ (∀ z ∈ p.cells, InR z) ∧ p.cells.length ≤ 2000000
theorem flat_tk {α β : Type} (f : α → List β) (l : List α) (k : Nat) (x : α) (h : l[k]? = some x) : (l.take (k + 1)).flatMap f = (l.take k).flatMap f ++ f x := by
  rw [List.take_add_one, h, List.flatMap_append]
  simp

set_option maxHeartbeats 2000000 in
theorem putPages_any (A : Option Addr) (n c : Nat) (l : List UInt8) (S : Nat → Prop) (w : World) (hv : Bytes S w (.slice A n c) l) (Ap : Option Addr) (np cp : Nat) (ps : List Pg) (hP : Pgs (· < w.heap.size) w (.slice Ap np cp) ps) (hok : ∀ p ∈ ps, PgOk p) (hlen : n ≤ 1000000) (hnp : np ≤ 400) :
    Calls Try.prog 18 #[.slice A n c, .slice Ap np cp] w fun r w' => ∃ v', r = .returned v' ∧ Bytes (fun _ => True) w' v' (l ++ encs (pgL ps)) ∧ Below w.heap.size w w' := by
  have hl := hv.len
  have HL := Lib.hid hl.1
  have hpl := hP.len
  have HPL := Lib.hid hpl.1
  have hpl2 := hpl.2
  have HOK := Lib.hid hok
  clear hok hpl
  have ha : Below w.heap.size w (w.alloc (.cells #[.int .i64 (np : Int)] 3)) := (Below.refl _ _).alloc (Nat.le_refl _) _
  have hlit := avoid_none (litZ w 3 [(np : Int)] #[.int .i64 (np : Int)] 1 rfl rfl (by omega))
  have hput := put_b w (w.alloc (.cells #[.int .i64 (np : Int)] 3)) none (.slice A n n) l ha (clip_acc (w0 := w) w.heap.size (hv.ext ha) (by omega)) _ 1 1 [(np : Int)] hlit (by intro z hz; simp at hz; subst hz; exact ⟨by omega, by omega⟩) (by have := HL.out; omega)
  have Hput := Lib.hid hput
  clear hput hlit
  go_enter Try.func18, Try.ntmps18
  go_wp2_with fail
  refine (clip_any A n c w hl.2.1 hl.2.2).mono ?_
  rintro e w1 ⟨rfl, rfl⟩
  go_wp2_with fail
  refine (Hput.out).mono ?_
  rintro e w2 ⟨v2, row2, rfl, hacc2, hb2, _⟩
  go_wp2
  have hl2 : (l ++ encs [(np : Int)]).length ≤ n + 10 := by
    have h1 := encs_len [(np : Int)] (by intro z hz; simp at hz; subst hz; exact ⟨by omega, by omega⟩)
    have h2 := HL.out
    rw [List.length_append]
    rw [List.length_singleton] at h1
    omega
  go_loopw [0, 15] (fun v i wr => ∃ (k : Nat) (row : Option Nat), i = .int .i64 k ∧ k ≤ np ∧ Acc wr w1.heap.size row v (l ++ encs ([(np : Int)] ++ (ps.take k).flatMap Pg.l)) ∧ (l ++ encs ([(np : Int)] ++ (ps.take k).flatMap Pg.l)).length ≤ n + 10 + k * 30000000 ∧ Below w1.heap.size w1 wr) (fun _ i _ => np - (intOf i).toNat)
  case atStart => exact ⟨0, row2, rfl, by omega, by simpa using hacc2, by simpa using hl2, hb2⟩
  case round =>
    clear hacc2 hb2 hl2
    obtain ⟨k, row, rfl, hk, hacc, hll, hbr⟩ := hrel
    by_cases hlt : k < np
    · obtain ⟨b, off, x, p, rfl, hbS, hbl, hpk, hnum, hcs, c0, c1⟩ := (hP.ext hbr).at_ hlt
      have hpo := HOK.out p (List.mem_of_getElem? hpk)
      have hfl := flat_tk Pg.l ps k p hpk
      have hcl := hcs.len
      have HCL := Lib.hid hcl.1
      obtain ⟨lk, hlk⟩ : ∃ lk, lk = l ++ encs ([(np : Int)] ++ (ps.take k).flatMap Pg.l) := ⟨_, rfl⟩
      have htgt : l ++ encs ([(np : Int)] ++ (ps.take (k + 1)).flatMap Pg.l) = lk ++ encs [p.num, (p.cells.length : Int)] ++ encs p.cells := by
        rw [hfl, hlk, show Pg.l p = [p.num, (p.cells.length : Int)] ++ p.cells from rfl]
        simp only [encs_append, List.append_assoc]
      have HTG := Lib.hid htgt
      rw [← hlk] at hacc hll
      have hsz := hbr.size
      have Hnum := Lib.hid hnum
      clear hpk hfl htgt hlk hnum
      -- the page's box, and the two numbers
      obtain ⟨W3, hW3⟩ : ∃ W3, W3 = wr.alloc (.cells #[.int .i64 x.num, .slice x.A x.n x.c] 71) := ⟨_, rfl⟩
      have hb3 : Below wr.heap.size wr W3 := by rw [hW3]; exact (Below.refl _ _).alloc (Nat.le_refl _) _
      have r3 : W3.heap[wr.heap.size]? = some (.cells #[.int .i64 x.num, .slice x.A x.n x.c] 71 (0, 0)) := by rw [hW3]; exact heap_alloc_new _ _
      have hs3 : W3.heap.size = wr.heap.size + 1 := by rw [hW3]; simp
      have ha3 : Below W3.heap.size W3 (W3.alloc (.cells #[.int .i64 x.num, .int .i64 (x.n : Int)] 3)) := (Below.refl _ _).alloc (Nat.le_refl _) _
      have ha4 := Below.ext hb3 ha3
      have hlit := (litZ W3 3 [x.num, (x.n : Int)] #[.int .i64 x.num, .int .i64 (x.n : Int)] 2 rfl rfl (by omega)).mono (S' := fun b => row ≠ some b) (fun b _ h => hacc.avoid (.inr (by omega)))
      have hrng : ∀ z ∈ [x.num, (x.n : Int)], InR z := by
        intro z hz
        simp at hz
        rcases hz with rfl | rfl
        · rw [Hnum.out]; exact hpo.1
        · exact ⟨by omega, by omega⟩
      have hput := put_b w1 (W3.alloc (.cells #[.int .i64 x.num, .int .i64 (x.n : Int)] 3)) row _ lk (Below.ext hbr ha4) (hacc.ext ha4) _ 2 2 _ hlit hrng (by omega)
      have Hput2 := Lib.hid hput
      have R3 := Lib.hid r3
      have HlL := encs_len _ hrng
      rw [hs3] at Hput2
      clear hput hlit r3
      go_wp2_with fail
      rw [← hW3]
      refine Hput2.out.mono ?_
      rintro r w5 ⟨v5, row5, rfl, hacc5, hb5, hg5⟩
      have r5 := (hg5.block wr.heap.size (by simp; omega) (fun e => (hacc.avoid (.inr (Nat.le_refl _))) e.symm)).trans ((ha3.block wr.heap.size (by omega)).trans R3.out)
      have q5 : w5.cell? ⟨wr.heap.size, 1, none⟩ = some (.slice x.A x.n x.c) := by rw [cell_of_row _ _ _ _ _ _ r5]; rfl
      have hcs5 : Recs encZ (· < w1.heap.size) w5 (.slice x.A x.n x.c) p.cells := hcs.keep (fun b _ hs => (hb5.block b hs).trans (hbr.block b hs).symm)
      have hput := put_b w1 w5 row5 v5 _ hb5 hacc5 x.A x.n x.c p.cells (avoid_acc hacc5 hcs5) hpo.2.1 (by have := hpo.2.2; have := HCL.out; rw [List.length_append]; simp at HlL; omega)
      have Hput3 := Lib.hid hput
      clear hput
      go_wp2_with fail
      refine Hput3.out.mono ?_
      rintro r w6 ⟨v6, row6, rfl, hacc6, hb6, _⟩
      have hel := encs_len p.cells hpo.2.1
      have hn1 : [x.num, (x.n : Int)] = [p.num, (p.cells.length : Int)] := by rw [Hnum.out, HCL.out]
      rw [hn1, ← HTG.out] at hacc6
      have hln : (l ++ encs ([(np : Int)] ++ (ps.take (k + 1)).flatMap Pg.l)).length ≤ n + 10 + (k + 1) * 30000000 := by
        rw [HTG.out, List.length_append, List.length_append, ← hn1]
        have := hpo.2.2
        simp at HlL
        omega
      go_wp2
      go_roundw
      case rel => exact ⟨k + 1, row6, by go_num, by omega, hacc6, hln, hb6⟩
      case measure => simp [intOf]; omega
    · obtain rfl : k = np := by omega
      rw [List.take_of_length_le (by have := HPL.out; omega)] at hacc
      have hfin : l ++ encs ([(k : Int)] ++ ps.flatMap Pg.l) = l ++ encs (pgL ps) := by unfold pgL; rw [HPL.out]
      rw [hfin] at hacc
      go_wp2
      go_ret
      exact ⟨_, rfl, hacc.bytes, hbr⟩
end Go.Proofs.Ytgjjfjibfleonaa
