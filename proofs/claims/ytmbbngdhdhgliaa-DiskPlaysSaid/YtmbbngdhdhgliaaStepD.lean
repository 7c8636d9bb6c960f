/-
  rollbacknetlaw10.step: a call on two disks.
-/
import Derived.Test.YtmbbngdhdhgliaaOps
import Derived.Deep.Cut
import Derived.Deep.CutRange
import Derived.Deep.CutBlock
namespace Go.Proofs.Ytmbbngdhdhgliaa
open Go.RowKit
set_option maxRecDepth 100000
set_option linter.unusedVariables false

theorem crash_flen (fs : List Fil) (ts : List Tear) (m : Nat) (h : ∀ f ∈ fs, flen f ≤ m) : ∀ f ∈ crashL fs ts, flen f ≤ m := by
  intro f hf
  obtain ⟨i, hi, rfl⟩ := List.mem_iff_getElem.1 hf
  have hi' : i < fs.length := by simpa [crashL] using hi
  have := h fs[i] (List.getElem_mem hi')
  simp only [crashL, List.getElem_mapIdx]
  unfold flen at *
  simp only [crashF, List.length_append, List.length_nil, tornL_len]
  have := keepN_le fs[i].p (tearOf ts i).keep
  omega
theorem row_alloc' {w : World} {g : Nat} {o : Obj} (h : w.heap[g]? = some o) (Z : Obj) : (w.alloc Z).heap[g]? = some o := (((Below.refl _ w).alloc (Nat.le_refl _) Z).block g (Array.getElem?_eq_some_iff.1 h).1).trans h
theorem heap_new' (w : World) (Z : Obj) (g : Nat) (h : g = w.heap.size) : (w.alloc Z).heap[g]? = some Z := by rw [h]; exact heap_alloc_new _ _
/-- the end of a step: the boxes of the results are written -/
theorem SI.fin {B g : Nat} {SS : Nat → Prop} {w : World} {A1 : Option Addr} {c1 : Nat} {A2 : Option Addr} {c2 n : Nat} {fs : List Fil} {wr : World} (h : SI B g SS w A1 c1 A2 c2 n fs wr) (u v : Value) :
    Cod B ((wr.setRow (w.heap.size + 2) #[u]).setRow (w.heap.size + 3) #[v]) g ∧ w.grownBy ((wr.setRow (w.heap.size + 2) #[u]).setRow (w.heap.size + 3) #[v]) (some g) ∧
    ∀ (z : Value) (r : List Fil), {M : Nat} → (∀ b, SS b → b ≠ g ∧ (b ≠ w.heap.size + 2 ∧ b ≠ w.heap.size + 3) ∧ b ≠ M ∧ b ≠ M + 1) → Dsk SS wr z r → {S' : Nat → Prop} → (∀ b, SS b → S' b) → Dsk S' ((wr.setRow (w.heap.size + 2) #[u]).setRow (w.heap.size + 3) #[v]) z r := by
  have hg1 : wr.grownBy (wr.setRow (w.heap.size + 2) #[u]) (some (w.heap.size + 2)) := grown_setRow _ _ _
  have hg2 : (wr.setRow (w.heap.size + 2) #[u]).grownBy ((wr.setRow (w.heap.size + 2) #[u]).setRow (w.heap.size + 3) #[v]) (some (w.heap.size + 3)) := grown_setRow _ _ _
  have hB := h.cod.1
  have hlt := h.lt
  refine ⟨(h.cod.grown hg1 (fun x hx => by cases hx; omega)).grown hg2 (fun x hx => by cases hx; omega), grown_new (grown_new h.gr hg1 (fun x hx => by cases hx; omega)) hg2 (fun x hx => by cases hx; omega), fun z r M hSS hD S' hS' => ?_⟩
  exact ((hD.keep (fun b hb hs => hg1.block b hb (by simpa using (hSS b hs).2.1.1))).keep (fun b hb hs => hg2.block b hb (by simpa using (hSS b hs).2.1.2))).mono (fun b _ h => hS' b h)
theorem SI.drew {B g : Nat} {SS : Nat → Prop} {w : World} {A1 : Option Addr} {c1 : Nat} {A2 : Option Addr} {c2 n : Nat} {fs : List Fil} {wr : World} (h : SI B g SS w A1 c1 A2 c2 n fs wr) : SI B g SS w A1 c1 A2 c2 n fs wr.drew := h.ext (Below.refl _ _).drew

set_option maxHeartbeats 8000000 in
theorem step_any (B g : Nat) (w : World) (h : Cod B w g) (A1 : Option Addr) (c1 : Nat) (A2 : Option Addr) (c2 : Nat) (fs : List Fil) (S : Nat → Prop) (hS : ∀ b, S b → b ≠ g) (m : Nat) (hm : m + 40 ≤ 1000) (hl : ∀ f ∈ fs, flen f ≤ m) (h1 : Dsk S w (.slice A1 3 c1) fs) (h2 : Dsk S w (.slice A2 3 c2) fs) :
    Calls Try.prog 22 #[.pointer (some ⟨g, 0, none⟩), .agg #[.slice A1 3 c1], .agg #[.slice A2 3 c2]] w fun e w' => ∃ A1' c1' A2' c2' fs', e = .returned (.tuple #[.agg #[.slice A1' 3 c1'], .agg #[.slice A2' 3 c2'], .bool true]) ∧ Cod B w' g ∧ w.grownBy w' (some g) ∧ Dsk (fun b => S b ∨ w.heap.size ≤ b) w' (.slice A1' 3 c1') fs' ∧ Dsk (fun b => S b ∨ w.heap.size ≤ b) w' (.slice A2' 3 c2') fs' ∧ (∀ f ∈ fs', flen f ≤ m + 40) := by
  have hglt := h.lt
  have hn3 : fs.length = 3 := h1.len.1
  have hl' : ∀ f ∈ fs, flen f ≤ 1000 := fun f hf => Nat.le_trans (hl f hf) (by omega)
  obtain ⟨W, hW⟩ : ∃ W, W = (((w.alloc (.cells #[.slice A1 3 c1] 24)).alloc (.cells #[.slice A2 3 c2] 24)).alloc (.cells #[.slice none 0 0] 24)).alloc (.cells #[.slice none 0 0] 24) := ⟨_, rfl⟩
  have hbW : Below w.heap.size w W := by rw [hW]; exact ((((Below.refl _ w).alloc (Nat.le_refl _) _).alloc (by simp) _).alloc (by simp; omega) _).alloc (by simp; omega) _
  have hsW : W.heap.size = w.heap.size + 4 := by rw [hW]; simp
  have r0 : W.heap[w.heap.size]? = some (.cells #[.slice A1 3 c1] 24 (0, 0)) := by rw [hW]; exact row_alloc' (row_alloc' (row_alloc' (heap_alloc_new _ _) _) _) _
  have r1 : W.heap[w.heap.size + 1]? = some (.cells #[.slice A2 3 c2] 24 (0, 0)) := by rw [hW]; exact row_alloc' (row_alloc' (heap_new' _ _ _ (by simp)) _) _
  have r2 : W.heap[w.heap.size + 2]? = some (.cells #[.slice none 0 0] 24 (0, 0)) := by rw [hW]; exact row_alloc' (heap_new' _ _ _ (by simp)) _
  have r3 : W.heap[w.heap.size + 3]? = some (.cells #[.slice none 0 0] 24 (0, 0)) := by rw [hW]; exact heap_new' _ _ _ (by simp)
  have hCW := h.ext hbW
  have HsW := Lib.hid hsW
  have HR := Lib.hid (And.intro r0 (And.intro r1 (And.intro r2 r3)))
  clear r0 r1 r2 r3 hsW
  go_enter Try.func22, Try.ntmps22
  go_wp2_with fail
  rw [← hW]
  clear hW
  refine (codnext_any B g 5 W hCW (by omega) (by omega)).mono ?_
  rintro e w1 ⟨x5, rfl, hx5, hC1, hg1⟩
  have s1 := hg1.size
  obtain ⟨W2, hW2⟩ : ∃ W2, W2 = (w1.alloc (.cells #[.slice none 0 0] 24)).alloc (.cells #[.slice none 0 0] 24) := ⟨_, rfl⟩
  have hbW2 : Below w1.heap.size w1 W2 := by rw [hW2]; exact ((Below.refl _ _).alloc (Nat.le_refl _) _).alloc (by simp) _
  have hsW2 : W2.heap.size = w1.heap.size + 2 := by rw [hW2]; simp
  have rM : W2.heap[w1.heap.size]? = some (.cells #[.slice none 0 0] 24 (0, 0)) := by rw [hW2]; exact row_alloc' (heap_alloc_new _ _) _
  have rN : W2.heap[w1.heap.size + 1]? = some (.cells #[.slice none 0 0] 24 (0, 0)) := by rw [hW2]; exact heap_new' _ _ _ (by simp)
  have sM : w.heap.size + 4 ≤ w1.heap.size := by have := HsW.out; omega
  obtain ⟨SS, hSSd⟩ : ∃ SS : Nat → Prop, SS = fun b => (S b ∨ w.heap.size ≤ b) ∧ b ≠ g ∧ (b ≠ w.heap.size + 2 ∧ b ≠ w.heap.size + 3) ∧ b ≠ w1.heap.size ∧ b ≠ w1.heap.size + 1 := ⟨_, rfl⟩
  have hSS : ∀ b, SS b → b ≠ g ∧ (b ≠ w.heap.size + 2 ∧ b ≠ w.heap.size + 3) ∧ b ≠ w1.heap.size ∧ b ≠ w1.heap.size + 1 := fun b hb => by rw [hSSd] at hb; exact hb.2
  have hSo : ∀ b, SS b → S b ∨ w.heap.size ≤ b := fun b hb => by rw [hSSd] at hb; exact hb.1
  have hSn : ∀ b, w1.heap.size + 2 ≤ b → SS b := fun b hb => by rw [hSSd]; exact ⟨.inr (by omega), by omega, ⟨by omega, by omega⟩, by omega, by omega⟩
  have hSl : ∀ b, b < w.heap.size → S b → SS b := fun b hb hs => by rw [hSSd]; exact ⟨.inl hs, hS b hs, ⟨by omega, by omega⟩, by omega, by omega⟩
  clear hSSd
  have hkW : Keep SS W w1 := fun b hb hs => hg1.block b hb (by simpa using (hSS b hs).1)
  have hI2 : SI B g SS w A1 c1 A2 c2 3 fs W2 :=
    have hsW := HsW.out
    have hgW := grown_trans (grown_of_below hbW (some g)) hg1
    ⟨hC1.ext hbW2, hglt, grown_trans hgW (grown_of_below hbW2 _),
      (hbW2.block _ (by omega)).trans ((hg1.block _ (by omega) (by simp; omega)).trans HR.out.1),
      (hbW2.block _ (by omega)).trans ((hg1.block _ (by omega) (by simp; omega)).trans HR.out.2.1),
      (hbW2.block _ (by omega)).trans ((hg1.block _ (by omega) (by simp; omega)).trans HR.out.2.2.1),
      (hbW2.block _ (by omega)).trans ((hg1.block _ (by omega) (by simp; omega)).trans HR.out.2.2.2),
      (((h1.mono hSl).ext hbW).keep hkW).ext hbW2, (((h2.mono hSl).ext hbW).keep hkW).ext hbW2⟩
  have HM2 := Lib.hid rM
  have HN2 := Lib.hid rN
  have HsW2 := Lib.hid hsW2
  have HI2 := Lib.hid hI2
  clear hkW rM rN hsW2 hCW hbW h h1 h2 hg1 hI2 HR
  go_wp2_with fail
  rw [← hW2]
  clear hW2
  refine (codnext_any B g 7 W2 HI2.out.cod (by omega) (by omega)).mono ?_
  rintro e w3 ⟨x, rfl, hx, hC3, hg3⟩
  have hI3 := HI2.out.draw hC3 hg3 (fun b hb => (hSS b hb).1)
  have s3 : w1.heap.size + 2 ≤ w3.heap.size := by have := HsW2.out; have := hg3.size; omega
  have HM3 := Lib.hid ((hg3.block w1.heap.size (by have := HsW2.out; omega) (by simp; omega)).trans HM2.out)
  have HN3 := Lib.hid ((hg3.block (w1.heap.size + 1) (by have := HsW2.out; omega) (by simp; omega)).trans HN2.out)
  clear hg3 hbW2 hC1
  go_upto_block 0 with fail
  go_cut [12, 13] from 24 (fun s12 s13 wx => ∃ (r : List Fil) (rn : Nat) (er : Int) (B1 : Option Addr) (e1 : Nat) (B2 : Option Addr) (e2 : Nat), s12 = .int .i64 er ∧ s13 = .int .i64 er ∧ ((er = 11 ∧ rn = 0) ∨ (er = 0 ∧ rn = 3 ∧ ∀ f ∈ r, flen f ≤ m + 40)) ∧ SI B g SS w A1 c1 A2 c2 3 fs wx ∧ wx.heap[w1.heap.size]? = some (.cells #[.slice B1 rn e1] 24 (0, 0)) ∧ wx.heap[w1.heap.size + 1]? = some (.cells #[.slice B2 rn e2] 24 (0, 0)) ∧ Dsk SS wx (.slice B1 rn e1) r ∧ Dsk SS wx (.slice B2 rn e2) r)
  case first =>
    go_upto_if 48 with fail
    go_cut [25, 48] from 49 to 51 (fun s25 s48 wx => w3 = wx ∧ s25 = .int .i64 (x : Int) ∧ s48 = .bool (decide (x < 3)))
    case first =>
      obtain h0 | h0 | h0 | h0 : x = 0 ∨ x = 1 ∨ x = 2 ∨ 3 ≤ x := by omega
      · subst h0
        go_wp2
        go_meet
        case rel => exact ⟨rfl, rfl, rfl⟩
      · subst h0
        go_wp2
        go_meet
        case rel => exact ⟨rfl, rfl, rfl⟩
      · subst h0
        go_wp2
        go_meet
        case rel => exact ⟨rfl, rfl, rfl⟩
      · have e0 : ((x : Int) == 0) = false := by simp; omega
        have e1 : ((x : Int) == 1) = false := by simp; omega
        have e2 : ((x : Int) == 2) = false := by simp; omega
        have e3 : decide (x < 3) = false := by simp; omega
        go_wp2
        go_meet
        case rel => exact ⟨rfl, rfl, by rw [e3]⟩
    case rest =>
      obtain ⟨rfl, rfl, rfl⟩ := hcut
      by_cases h3 : x < 3
      · have e3 : decide (x < 3) = true := by simp; omega
        rw [e3]
        go_wp2_with fail
        refine (codbytes_any B g 40 w3 hC3 (by omega)).mono ?_
        rintro e w4 ⟨v4, l, rfl, hll, hown4, hC4, hg4⟩
        have s4 := hg4.size
        have hI4 := hI3.draw hC4 hg4 (fun b hb => (hSS b hb).1)
        have hby4 : By SS w4 v4 l := hown4.bytes.by_.mono (fun b hb h => hSn b (by have : w3.heap.size ≤ b := h.1; omega))
        obtain ⟨Ab, cb, rfl, hlc, hcm, hcs⟩ := hby4
        have hby4 : By SS w4 (.slice Ab l.length cb) l := ⟨Ab, cb, rfl, hlc, hcm, hcs⟩
        clear hcs hown4
        have HM4 := Lib.hid ((hg4.block w1.heap.size (Array.getElem?_eq_some_iff.1 HM3.out).1 (by simp; omega)).trans HM3.out)
        have HN4 := Lib.hid ((hg4.block (w1.heap.size + 1) (Array.getElem?_eq_some_iff.1 HN3.out).1 (by simp; omega)).trans HN3.out)
        clear hg4 hI3 hC3
        obtain ⟨r, rn, er, hR⟩ := OpR.ex (fun f => ⟨f.s, f.p ++ l⟩) fs 3 ((x5 : Int) - 1) hn3
        have her := hR.spec (m := m) (m' := m + 40) (by omega) hl (fun f hf => by unfold flen at hf ⊢; simp; omega)
        have q4 : w4.cell? ⟨w.heap.size, 0, none⟩ = some (.slice A1 3 c1) := by rw [cell_of_row _ _ _ _ _ _ hI4.r0]; rfl
        have HQ := Lib.hid hI4
        clear hI4
        go_wp2_with fail
        refine (append_go A1 3 c1 fs SS w4 HQ.out.d1 (by omega) ((x5 : Int) - 1) Ab l.length cb l hby4 (by omega) hl' r rn er hR).mono ?_
        rintro e w5 ⟨B1, e1, rfl, hD5, hb5⟩
        have hI5 := HQ.out.ext hb5
        have s5 := hb5.size
        have hrM5 := (hb5.block w1.heap.size (by have := HM4.out; have := (Array.getElem?_eq_some_iff.1 HM4.out).1; omega)).trans HM4.out
        have hrN5 := (hb5.block (w1.heap.size + 1) (by have := (Array.getElem?_eq_some_iff.1 HN4.out).1; omega)).trans HN4.out
        have HM5 := Lib.hid hrM5
        have hD5' : Dsk SS w5 (.slice B1 rn e1) r := hD5.mono (fun b hb h => by rcases h with h | h; exact h; exact hSn b (by omega))
        obtain ⟨W6, hW6⟩ : ∃ W6, W6 = w5.setRow w1.heap.size #[.slice B1 rn e1] := ⟨_, rfl⟩
        have hg6 : w5.grownBy W6 (some w1.heap.size) := by rw [hW6]; exact grown_setRow _ _ _
        have hs6 : W6.heap.size = w5.heap.size := by rw [hW6]; exact setRow_size _ _ _
        have hrM6 : W6.heap[w1.heap.size]? = some (.cells #[.slice B1 rn e1] 24 (0, 0)) := by rw [hW6]; exact setRow_heap _ _ _ _ _ _ HM5.out
        have hrN6 := (hg6.block (w1.heap.size + 1) (Array.getElem?_eq_some_iff.1 hrN5).1 (by simp)).trans hrN5
        have hI6 := hI5.set (by omega) hg6 (fun b hb => (hSS b hb).2.2.1)
        have hk6 : Keep SS w5 W6 := fun b hb hs => hg6.block b hb (by have := (hSS b hs).2.2.1; simpa using this)
        have hD6 := hD5'.keep hk6
        have q6 : (w5.setRow w1.heap.size #[.slice B1 rn e1]).cell? ⟨w.heap.size + 1, 0, none⟩ = some (.slice A2 3 c2) := by rw [← hW6, cell_of_row _ _ _ _ _ _ hI6.r1]; rfl
        have hby6 := (hby4.ext hb5).keep hk6
        clear hby4
        have HI6 := Lib.hid hI6
        have HN6 := Lib.hid hrN6
        have HM6 := Lib.hid hrM6
        clear hD5 hD5' hI5 hrM5 hrN5 hrM6 hrN6 q4 hI6
        go_wp2_with (refine wpList_store_row rfl 24 _ _ rfl (w1.heap.size) 24 _ _ rfl rfl HM5.out (by kernel_rfl) rfl (by simp [Value.oneCell']) ?_)
        rw [← hW6]
        clear hW6 q6
        refine (refappend_go A2 3 c2 fs SS W6 HI6.out.d2 (by omega) ((x5 : Int) - 1) Ab l.length cb l hby6 (by omega) hl' r rn er hR).mono ?_
        rintro e w7 ⟨B2, e2, rfl, hD7, hb7⟩
        have s7 := hb7.size
        have hI7 := HI6.out.ext hb7
        have hrM7 := (hb7.block w1.heap.size (Array.getElem?_eq_some_iff.1 HM6.out).1).trans HM6.out
        have hrN7 := (hb7.block (w1.heap.size + 1) (Array.getElem?_eq_some_iff.1 HN6.out).1).trans HN6.out
        have HN7 := Lib.hid hrN7
        have hD7' : Dsk SS w7 (.slice B2 rn e2) r := hD7.mono (fun b hb h => by rcases h with h | h; exact h; exact hSn b (by omega))
        have hg8 : w7.grownBy (w7.setRow (w1.heap.size + 1) #[.slice B2 rn e2]) (some (w1.heap.size + 1)) := grown_setRow _ _ _
        have hk8 : Keep SS w7 (w7.setRow (w1.heap.size + 1) #[.slice B2 rn e2]) := fun b hb hs => hg8.block b hb (by have := (hSS b hs).2.2.2; simpa using this)
        have HE : RowKit.Hid (SI B g SS w A1 c1 A2 c2 3 fs (w7.setRow (w1.heap.size + 1) #[.slice B2 rn e2]) ∧ (w7.setRow (w1.heap.size + 1) #[.slice B2 rn e2]).heap[w1.heap.size]? = some (.cells #[.slice B1 rn e1] 24 (0, 0)) ∧ (w7.setRow (w1.heap.size + 1) #[.slice B2 rn e2]).heap[w1.heap.size + 1]? = some (.cells #[.slice B2 rn e2] 24 (0, 0)) ∧ Dsk SS (w7.setRow (w1.heap.size + 1) #[.slice B2 rn e2]) (.slice B1 rn e1) r ∧ Dsk SS (w7.setRow (w1.heap.size + 1) #[.slice B2 rn e2]) (.slice B2 rn e2) r) :=
          Lib.hid ⟨hI7.set (by omega) hg8 (fun b hb => (hSS b hb).2.2.2), (setRow_other _ _ _ _ (by omega)).trans hrM7, setRow_heap _ _ _ _ _ _ HN7.out, (hD6.ext hb7).keep hk8, hD7'.keep hk8⟩
        clear hI7 hrM7 hrN7 hD7 hD7' hg8 hk8 hD6 hk6
        go_wp2_with (refine wpList_store_row rfl 24 _ _ rfl (w1.heap.size + 1) 24 _ _ rfl rfl HN7.out (by kernel_rfl) rfl (by simp [Value.oneCell']) ?_)
        go_meet
        case rel => exact ⟨r, rn, er, B1, e1, B2, e2, rfl, rfl, her, HE.out⟩
      · obtain h4 | h4 | h4 | h4 : x = 3 ∨ x = 4 ∨ x = 5 ∨ x = 6 := by omega
        · subst h4
          obtain ⟨w4, hw4⟩ : ∃ w4, w4 = w3 := ⟨_, rfl⟩
          have hI4 := hI3
          rw [← hw4] at hI4
          have HM4 := Lib.hid HM3.out
          have HN4 := Lib.hid HN3.out
          rw [← hw4] at HM4 HN4
          rw [← hw4]
          have s4 : w3.heap.size ≤ w4.heap.size := by rw [hw4]; exact Nat.le_refl _
          clear hI3 hC3 hw4
          obtain ⟨r, rn, er, hR⟩ := OpR.ex (fun f => ⟨f.s ++ f.p, []⟩) fs 3 ((x5 : Int) - 1) hn3
          have her := hR.spec (m := m) (m' := m + 40) (by omega) hl (fun f hf => by unfold flen at hf ⊢; simp; omega)
          have q4 : w4.cell? ⟨w.heap.size, 0, none⟩ = some (.slice A1 3 c1) := by rw [cell_of_row _ _ _ _ _ _ hI4.r0]; rfl
          have HQ := Lib.hid hI4
          clear hI4
          go_wp2_with fail
          refine (sync_go A1 3 c1 fs SS w4 HQ.out.d1 (by omega) ((x5 : Int) - 1)  hl' r rn er hR).mono ?_
          rintro e w5 ⟨B1, e1, rfl, hD5, hb5⟩
          have hI5 := HQ.out.ext hb5
          have s5 := hb5.size
          have hrM5 := (hb5.block w1.heap.size (by have := HM4.out; have := (Array.getElem?_eq_some_iff.1 HM4.out).1; omega)).trans HM4.out
          have hrN5 := (hb5.block (w1.heap.size + 1) (by have := (Array.getElem?_eq_some_iff.1 HN4.out).1; omega)).trans HN4.out
          have HM5 := Lib.hid hrM5
          have hD5' : Dsk SS w5 (.slice B1 rn e1) r := hD5.mono (fun b hb h => by rcases h with h | h; exact h; exact hSn b (by omega))
          obtain ⟨W6, hW6⟩ : ∃ W6, W6 = w5.setRow w1.heap.size #[.slice B1 rn e1] := ⟨_, rfl⟩
          have hg6 : w5.grownBy W6 (some w1.heap.size) := by rw [hW6]; exact grown_setRow _ _ _
          have hs6 : W6.heap.size = w5.heap.size := by rw [hW6]; exact setRow_size _ _ _
          have hrM6 : W6.heap[w1.heap.size]? = some (.cells #[.slice B1 rn e1] 24 (0, 0)) := by rw [hW6]; exact setRow_heap _ _ _ _ _ _ HM5.out
          have hrN6 := (hg6.block (w1.heap.size + 1) (Array.getElem?_eq_some_iff.1 hrN5).1 (by simp)).trans hrN5
          have hI6 := hI5.set (by omega) hg6 (fun b hb => (hSS b hb).2.2.1)
          have hk6 : Keep SS w5 W6 := fun b hb hs => hg6.block b hb (by have := (hSS b hs).2.2.1; simpa using this)
          have hD6 := hD5'.keep hk6
          have q6 : (w5.setRow w1.heap.size #[.slice B1 rn e1]).cell? ⟨w.heap.size + 1, 0, none⟩ = some (.slice A2 3 c2) := by rw [← hW6, cell_of_row _ _ _ _ _ _ hI6.r1]; rfl
          have HI6 := Lib.hid hI6
          have HN6 := Lib.hid hrN6
          have HM6 := Lib.hid hrM6
          clear hD5 hD5' hI5 hrM5 hrN5 hrM6 hrN6 q4 hI6
          go_wp2_with (refine wpList_store_row rfl 24 _ _ rfl (w1.heap.size) 24 _ _ rfl rfl HM5.out (by kernel_rfl) rfl (by simp [Value.oneCell']) ?_)
          rw [← hW6]
          clear hW6 q6
          refine (refsync_go A2 3 c2 fs SS W6 HI6.out.d2 (by omega) ((x5 : Int) - 1)  hl' r rn er hR).mono ?_
          rintro e w7 ⟨B2, e2, rfl, hD7, hb7⟩
          have s7 := hb7.size
          have hI7 := HI6.out.ext hb7
          have hrM7 := (hb7.block w1.heap.size (Array.getElem?_eq_some_iff.1 HM6.out).1).trans HM6.out
          have hrN7 := (hb7.block (w1.heap.size + 1) (Array.getElem?_eq_some_iff.1 HN6.out).1).trans HN6.out
          have HN7 := Lib.hid hrN7
          have hD7' : Dsk SS w7 (.slice B2 rn e2) r := hD7.mono (fun b hb h => by rcases h with h | h; exact h; exact hSn b (by omega))
          have hg8 : w7.grownBy (w7.setRow (w1.heap.size + 1) #[.slice B2 rn e2]) (some (w1.heap.size + 1)) := grown_setRow _ _ _
          have hk8 : Keep SS w7 (w7.setRow (w1.heap.size + 1) #[.slice B2 rn e2]) := fun b hb hs => hg8.block b hb (by have := (hSS b hs).2.2.2; simpa using this)
          have HE : RowKit.Hid (SI B g SS w A1 c1 A2 c2 3 fs (w7.setRow (w1.heap.size + 1) #[.slice B2 rn e2]) ∧ (w7.setRow (w1.heap.size + 1) #[.slice B2 rn e2]).heap[w1.heap.size]? = some (.cells #[.slice B1 rn e1] 24 (0, 0)) ∧ (w7.setRow (w1.heap.size + 1) #[.slice B2 rn e2]).heap[w1.heap.size + 1]? = some (.cells #[.slice B2 rn e2] 24 (0, 0)) ∧ Dsk SS (w7.setRow (w1.heap.size + 1) #[.slice B2 rn e2]) (.slice B1 rn e1) r ∧ Dsk SS (w7.setRow (w1.heap.size + 1) #[.slice B2 rn e2]) (.slice B2 rn e2) r) :=
            Lib.hid ⟨hI7.set (by omega) hg8 (fun b hb => (hSS b hb).2.2.2), (setRow_other _ _ _ _ (by omega)).trans hrM7, setRow_heap _ _ _ _ _ _ HN7.out, (hD6.ext hb7).keep hk8, hD7'.keep hk8⟩
          clear hI7 hrM7 hrN7 hD7 hD7' hg8 hk8 hD6 hk6
          go_wp2_with (refine wpList_store_row rfl 24 _ _ rfl (w1.heap.size + 1) 24 _ _ rfl rfl HN7.out (by kernel_rfl) rfl (by simp [Value.oneCell']) ?_)
          go_meet
          case rel => exact ⟨r, rn, er, B1, e1, B2, e2, rfl, rfl, her, HE.out⟩
        · subst h4
          go_wp2_with fail
          refine (codbytes_any B g 40 w3 hC3 (by omega)).mono ?_
          rintro e w4 ⟨v4, l, rfl, hll, hown4, hC4, hg4⟩
          have s4 := hg4.size
          have hI4 := hI3.draw hC4 hg4 (fun b hb => (hSS b hb).1)
          have hby4 : By SS w4 v4 l := hown4.bytes.by_.mono (fun b hb h => hSn b (by have : w3.heap.size ≤ b := h.1; omega))
          obtain ⟨Ab, cb, rfl, hlc, hcm, hcs⟩ := hby4
          have hby4 : By SS w4 (.slice Ab l.length cb) l := ⟨Ab, cb, rfl, hlc, hcm, hcs⟩
          clear hcs hown4
          have HM4 := Lib.hid ((hg4.block w1.heap.size (Array.getElem?_eq_some_iff.1 HM3.out).1 (by simp; omega)).trans HM3.out)
          have HN4 := Lib.hid ((hg4.block (w1.heap.size + 1) (Array.getElem?_eq_some_iff.1 HN3.out).1 (by simp; omega)).trans HN3.out)
          clear hg4 hI3 hC3
          obtain ⟨r, rn, er, hR⟩ := OpR.ex (fun _ => ⟨l, []⟩) fs 3 ((x5 : Int) - 1) hn3
          have her := hR.spec (m := m) (m' := m + 40) (by omega) hl (fun f hf => by unfold flen; simp; omega)
          have q4 : w4.cell? ⟨w.heap.size, 0, none⟩ = some (.slice A1 3 c1) := by rw [cell_of_row _ _ _ _ _ _ hI4.r0]; rfl
          have HQ := Lib.hid hI4
          clear hI4
          go_wp2_with fail
          refine (replace_go A1 3 c1 fs SS w4 HQ.out.d1 (by omega) ((x5 : Int) - 1) Ab l.length cb l hby4 (by omega) hl' r rn er hR).mono ?_
          rintro e w5 ⟨B1, e1, rfl, hD5, hb5⟩
          have hI5 := HQ.out.ext hb5
          have s5 := hb5.size
          have hrM5 := (hb5.block w1.heap.size (by have := HM4.out; have := (Array.getElem?_eq_some_iff.1 HM4.out).1; omega)).trans HM4.out
          have hrN5 := (hb5.block (w1.heap.size + 1) (by have := (Array.getElem?_eq_some_iff.1 HN4.out).1; omega)).trans HN4.out
          have HM5 := Lib.hid hrM5
          have hD5' : Dsk SS w5 (.slice B1 rn e1) r := hD5.mono (fun b hb h => by rcases h with h | h; exact h; exact hSn b (by omega))
          obtain ⟨W6, hW6⟩ : ∃ W6, W6 = w5.setRow w1.heap.size #[.slice B1 rn e1] := ⟨_, rfl⟩
          have hg6 : w5.grownBy W6 (some w1.heap.size) := by rw [hW6]; exact grown_setRow _ _ _
          have hs6 : W6.heap.size = w5.heap.size := by rw [hW6]; exact setRow_size _ _ _
          have hrM6 : W6.heap[w1.heap.size]? = some (.cells #[.slice B1 rn e1] 24 (0, 0)) := by rw [hW6]; exact setRow_heap _ _ _ _ _ _ HM5.out
          have hrN6 := (hg6.block (w1.heap.size + 1) (Array.getElem?_eq_some_iff.1 hrN5).1 (by simp)).trans hrN5
          have hI6 := hI5.set (by omega) hg6 (fun b hb => (hSS b hb).2.2.1)
          have hk6 : Keep SS w5 W6 := fun b hb hs => hg6.block b hb (by have := (hSS b hs).2.2.1; simpa using this)
          have hD6 := hD5'.keep hk6
          have q6 : (w5.setRow w1.heap.size #[.slice B1 rn e1]).cell? ⟨w.heap.size + 1, 0, none⟩ = some (.slice A2 3 c2) := by rw [← hW6, cell_of_row _ _ _ _ _ _ hI6.r1]; rfl
          have hby6 := (hby4.ext hb5).keep hk6
          clear hby4
          have HI6 := Lib.hid hI6
          have HN6 := Lib.hid hrN6
          have HM6 := Lib.hid hrM6
          clear hD5 hD5' hI5 hrM5 hrN5 hrM6 hrN6 q4 hI6
          go_wp2_with (refine wpList_store_row rfl 24 _ _ rfl (w1.heap.size) 24 _ _ rfl rfl HM5.out (by kernel_rfl) rfl (by simp [Value.oneCell']) ?_)
          rw [← hW6]
          clear hW6 q6
          refine (refreplace_go A2 3 c2 fs SS W6 HI6.out.d2 (by omega) ((x5 : Int) - 1) Ab l.length cb l hby6 (by omega) hl' r rn er hR).mono ?_
          rintro e w7 ⟨B2, e2, rfl, hD7, hb7⟩
          have s7 := hb7.size
          have hI7 := HI6.out.ext hb7
          have hrM7 := (hb7.block w1.heap.size (Array.getElem?_eq_some_iff.1 HM6.out).1).trans HM6.out
          have hrN7 := (hb7.block (w1.heap.size + 1) (Array.getElem?_eq_some_iff.1 HN6.out).1).trans HN6.out
          have HN7 := Lib.hid hrN7
          have hD7' : Dsk SS w7 (.slice B2 rn e2) r := hD7.mono (fun b hb h => by rcases h with h | h; exact h; exact hSn b (by omega))
          have hg8 : w7.grownBy (w7.setRow (w1.heap.size + 1) #[.slice B2 rn e2]) (some (w1.heap.size + 1)) := grown_setRow _ _ _
          have hk8 : Keep SS w7 (w7.setRow (w1.heap.size + 1) #[.slice B2 rn e2]) := fun b hb hs => hg8.block b hb (by have := (hSS b hs).2.2.2; simpa using this)
          have HE : RowKit.Hid (SI B g SS w A1 c1 A2 c2 3 fs (w7.setRow (w1.heap.size + 1) #[.slice B2 rn e2]) ∧ (w7.setRow (w1.heap.size + 1) #[.slice B2 rn e2]).heap[w1.heap.size]? = some (.cells #[.slice B1 rn e1] 24 (0, 0)) ∧ (w7.setRow (w1.heap.size + 1) #[.slice B2 rn e2]).heap[w1.heap.size + 1]? = some (.cells #[.slice B2 rn e2] 24 (0, 0)) ∧ Dsk SS (w7.setRow (w1.heap.size + 1) #[.slice B2 rn e2]) (.slice B1 rn e1) r ∧ Dsk SS (w7.setRow (w1.heap.size + 1) #[.slice B2 rn e2]) (.slice B2 rn e2) r) :=
            Lib.hid ⟨hI7.set (by omega) hg8 (fun b hb => (hSS b hb).2.2.2), (setRow_other _ _ _ _ (by omega)).trans hrM7, setRow_heap _ _ _ _ _ _ HN7.out, (hD6.ext hb7).keep hk8, hD7'.keep hk8⟩
          clear hI7 hrM7 hrN7 hD7 hD7' hg8 hk8 hD6 hk6
          go_wp2_with (refine wpList_store_row rfl 24 _ _ rfl (w1.heap.size + 1) 24 _ _ rfl rfl HN7.out (by kernel_rfl) rfl (by simp [Value.oneCell']) ?_)
          go_meet
          case rel => exact ⟨r, rn, er, B1, e1, B2, e2, rfl, rfl, her, HE.out⟩
        · subst h4
          go_wp2_with fail
          refine (codnext_any B g 4 w3 hC3 (by omega) (by omega)).mono ?_
          rintro e w4 ⟨x4, rfl, hx4, hC4, hg4⟩
          have s4 := hg4.size
          have hI4 := hI3.draw hC4 hg4 (fun b hb => (hSS b hb).1)
          clear hI3 hC3
          go_wp2_with fail
          refine (tears_lim B g x4 w4 hC4 (by omega)).mono ?_
          rintro e w5 ⟨At, ct, ts, rfl, hT5, hC5, hg5, hlim⟩
          have s5 := hg5.size
          have hI5 := hI4.draw hC5 hg5 (fun b hb => (hSS b hb).1)
          have hg35 := grown_trans hg4 hg5
          have HM5 := Lib.hid ((hg35.block w1.heap.size (Array.getElem?_eq_some_iff.1 HM3.out).1 (by simp; omega)).trans HM3.out)
          have HN5 := Lib.hid ((hg35.block (w1.heap.size + 1) (Array.getElem?_eq_some_iff.1 HN3.out).1 (by simp; omega)).trans HN3.out)
          have hlc : ∀ f ∈ fs, f.s.length + f.p.length ≤ 3000000 := fun f hf => by have := hl f hf; unfold flen at this; omega
          have HI5 := Lib.hid hI5
          clear hg4 hg5 hg35 hI4 hI5 hC4 hC5
          go_wp2_with fail
          refine wp_region_lexL (fun w' => w'.heap[w.heap.size]? = some (.cells #[.slice A1 3 c1] 24 (0, 0)) ∧ w'.heap[w.heap.size + 1]? = some (.cells #[.slice A2 3 c2] 24 (0, 0))) (by kernel_rfl) (by kernel_rfl) ⟨HI5.out.r0, HI5.out.r1⟩ ?_
          repeat (first | (refine lexL_q0 rfl ?_; go_big_quiet_step (fail); refine wpQuiet_nil ?_) | (refine lexL_skip0 rfl rfl ?_; simp only [Act.put, List.setIfInBounds_toArray, List.set_cons_succ, List.set_cons_zero]))
          refine lexL_ld (⟨w.heap.size, 0, none⟩) (.agg #[.slice A1 3 c1]) rfl rfl rfl (fun w' hS => run_ld_block hS.1 Try.underlying24 rfl (by kernel_rfl)) ?_
          simp only [Act.put, List.setIfInBounds_toArray, List.set_cons_succ, List.set_cons_zero]
          repeat (first | (refine lexL_q0 rfl ?_; go_big_quiet_step (fail); refine wpQuiet_nil ?_) | (refine lexL_skip0 rfl rfl ?_; simp only [Act.put, List.setIfInBounds_toArray, List.set_cons_succ, List.set_cons_zero]))
          refine lexL_e rfl ?_
          go_wp2_with fail
          refine (crash_any A1 3 c1 fs _ w5.drew (HI5.out.d1.ext (Below.refl _ _).drew) (by omega) At x4 ct ts _ (hT5.ext (Below.refl _ _).drew) hlc).mono ?_
          rintro e w6 ⟨B1, e1, rfl, hD6, hb6'⟩
          have hb6 : Below w5.heap.size w5 w6 := Below.ext (Below.refl _ _).drew hb6'
          have s6 := hb6.size
          have hI6 := HI5.out.ext hb6
          have hD6' : Dsk SS w6 (.slice B1 3 e1) (crashL fs ts) := hD6.mono (fun b hb h => hSn b (by have h' : w5.heap.size ≤ b := h; omega))
          have HI6 := Lib.hid hI6
          clear hI6 hD6
          go_wp2_with fail
          refine lexL_go (⟨HI6.out.r0, HI6.out.r1⟩) ?_
          repeat (first | (refine lexL_q0 rfl ?_; go_big_quiet_step (fail); refine wpQuiet_nil ?_) | (refine lexL_skip0 rfl rfl ?_; simp only [Act.put, List.setIfInBounds_toArray, List.set_cons_succ, List.set_cons_zero]))
          refine lexL_ld (⟨w.heap.size + 1, 0, none⟩) (.agg #[.slice A2 3 c2]) rfl rfl rfl (fun w' hS => run_ld_block hS.2 Try.underlying24 rfl (by kernel_rfl)) ?_
          simp only [Act.put, List.setIfInBounds_toArray, List.set_cons_succ, List.set_cons_zero]
          repeat (first | (refine lexL_q0 rfl ?_; go_big_quiet_step (fail); refine wpQuiet_nil ?_) | (refine lexL_skip0 rfl rfl ?_; simp only [Act.put, List.setIfInBounds_toArray, List.set_cons_succ, List.set_cons_zero]))
          refine lexL_e rfl ?_
          go_wp2_with fail
          refine (refcrash_any A2 3 c2 fs _ w6 HI6.out.d2 (by omega) At x4 ct ts _ (hT5.ext hb6) hlc hlim).mono ?_
          rintro e w7 ⟨B2, e2, rfl, hD7, hb7⟩
          have s7 := hb7.size
          have hI7 := HI6.out.ext hb7
          have hD7' : Dsk SS w7 (.slice B2 3 e2) (crashL fs ts) := hD7.mono (fun b hb h => hSn b (by have h' : w6.heap.size ≤ b := h; omega))
          have HI7 := Lib.hid hI7
          have b57 := Below.ext hb6 hb7
          have HM7 := Lib.hid ((b57.block w1.heap.size (Array.getElem?_eq_some_iff.1 HM5.out).1).trans HM5.out)
          have HN7 := Lib.hid ((b57.block (w1.heap.size + 1) (Array.getElem?_eq_some_iff.1 HN5.out).1).trans HN5.out)
          have hDa := hD6'.ext hb7
          clear hI7 hD7 hD6' hT5
          go_wp2_with fail
          refine lexL_go (⟨HI7.out.r0, HI7.out.r1⟩) ?_
          repeat (first | (refine lexL_q0 rfl ?_; go_big_quiet_step (fail); refine wpQuiet_nil ?_) | (refine lexL_skip0 rfl rfl ?_; simp only [Act.put, List.setIfInBounds_toArray, List.set_cons_succ, List.set_cons_zero]))
          refine lexL_e rfl ?_
          refine wpList_store_row rfl 24 _ _ rfl (w1.heap.size) 24 _ _ rfl rfl HM7.out (by kernel_rfl) rfl (by simp [Value.oneCell']) ?_
          have hg8 : w7.grownBy (w7.setRow w1.heap.size #[.slice B1 3 e1]) (some w1.heap.size) := grown_setRow _ _ _
          have hk8 : Keep SS w7 (w7.setRow w1.heap.size #[.slice B1 3 e1]) := fun b hb hs => hg8.block b hb (by have := (hSS b hs).2.2.1; simpa using this)
          have hI8 := HI7.out.set (by omega) hg8 (fun b hb => (hSS b hb).2.2.1)
          have hDa8 := hDa.keep hk8
          have hDb8 := hD7'.keep hk8
          have hM8 : (w7.setRow w1.heap.size #[.slice B1 3 e1]).heap[w1.heap.size]? = some (.cells #[.slice B1 3 e1] 24 (0, 0)) := setRow_heap _ _ _ _ _ _ HM7.out
          have hN8 := (setRow_other w7 w1.heap.size (w1.heap.size + 1) #[.slice B1 3 e1] (by omega)).trans HN7.out
          have s8 : (w7.setRow w1.heap.size #[.slice B1 3 e1]).heap.size = w7.heap.size := setRow_size _ _ _
          clear hDa hD7' hg8 hk8
          generalize w7.setRow w1.heap.size #[.slice B1 3 e1] = w8 at *
          have HI8 := Lib.hid hI8
          have HM8 := Lib.hid hM8
          have HN8 := Lib.hid hN8
          clear hI8 hM8 hN8
          refine lexL_go ⟨HI8.out.r0, HI8.out.r1⟩ ?_
          simp only [Act.put]
          repeat (first | (refine lexL_q0 rfl ?_; go_big_quiet_step (fail); refine wpQuiet_nil ?_) | (refine lexL_skip0 rfl rfl ?_; simp only [Act.put, List.setIfInBounds_toArray, List.set_cons_succ, List.set_cons_zero]))
          refine lexL_e rfl ?_
          refine wpList_store_row rfl 24 _ _ rfl (w1.heap.size + 1) 24 _ _ rfl rfl HN8.out (by kernel_rfl) rfl (by simp [Value.oneCell']) ?_
          have hg9 : w8.grownBy (w8.setRow (w1.heap.size + 1) #[.slice B2 3 e2]) (some (w1.heap.size + 1)) := grown_setRow _ _ _
          have hk9 : Keep SS w8 (w8.setRow (w1.heap.size + 1) #[.slice B2 3 e2]) := fun b hb hs => hg9.block b hb (by have := (hSS b hs).2.2.2; simpa using this)
          have hI9 := HI8.out.set (by omega) hg9 (fun b hb => (hSS b hb).2.2.2)
          have hDa9 := hDa8.keep hk9
          have hDb9 := hDb8.keep hk9
          have hN9 : (w8.setRow (w1.heap.size + 1) #[.slice B2 3 e2]).heap[w1.heap.size + 1]? = some (.cells #[.slice B2 3 e2] 24 (0, 0)) := setRow_heap _ _ _ _ _ _ HN8.out
          have hM9 := (setRow_other w8 (w1.heap.size + 1) w1.heap.size #[.slice B2 3 e2] (by omega)).trans HM8.out
          clear hDa8 hDb8 hg9 hk9
          generalize w8.setRow (w1.heap.size + 1) #[.slice B2 3 e2] = w9 at *
          have HE : RowKit.Hid (SI B g SS w A1 c1 A2 c2 3 fs w9 ∧ w9.heap[w1.heap.size]? = some (.cells #[.slice B1 3 e1] 24 (0, 0)) ∧ w9.heap[w1.heap.size + 1]? = some (.cells #[.slice B2 3 e2] 24 (0, 0)) ∧ Dsk SS w9 (.slice B1 3 e1) (crashL fs ts) ∧ Dsk SS w9 (.slice B2 3 e2) (crashL fs ts)) := Lib.hid ⟨hI9, hM9, hN9, hDa9, hDb9⟩
          clear hI9 hM9 hN9 hDa9 hDb9
          refine lexL_go ⟨HE.out.1.r0, HE.out.1.r1⟩ ?_
          simp only [Act.put]
          repeat (first | (refine lexL_q0 rfl ?_; go_big_quiet_step (fail); refine wpQuiet_nil ?_) | (refine lexL_skip0 rfl rfl ?_; simp only [Act.put, List.setIfInBounds_toArray, List.set_cons_succ, List.set_cons_zero]))
          refine lexL_nil ?_
          go_wp2_with fail
          go_meet
          case rel => exact ⟨crashL fs ts, 3, 0, B1, e1, B2, e2, rfl, rfl, .inr ⟨rfl, rfl, crash_flen fs ts _ (fun f hf => Nat.le_trans (hl f hf) (by omega))⟩, HE.out⟩
        · subst h4
          obtain ⟨l, er, hR⟩ := RdR.ex fs 3 ((x5 : Int) - 1) hn3
          have her := hR.spec
          have q3 : w3.cell? ⟨w.heap.size, 0, none⟩ = some (.slice A1 3 c1) := by rw [cell_of_row _ _ _ _ _ _ hI3.r0]; rfl
          have HI3 := Lib.hid hI3
          clear hI3
          go_wp2_with fail
          refine (read_go A1 3 c1 fs SS w3 HI3.out.d1 (by omega) ((x5 : Int) - 1) hl' l er hR).mono ?_
          rintro e w5 ⟨v5, rfl, hby5, hb5⟩
          have hI5 := HI3.out.ext hb5
          have q5 : w5.cell? ⟨w.heap.size + 1, 0, none⟩ = some (.slice A2 3 c2) := by rw [cell_of_row _ _ _ _ _ _ hI5.r1]; rfl
          have HI5 := Lib.hid hI5
          clear hI5 q3 hb5
          go_wp2_with fail
          refine (refread_go A2 3 c2 fs SS w5 HI5.out.d2 (by omega) ((x5 : Int) - 1) hl' l er hR).mono ?_
          rintro e w7 ⟨v7, rfl, hby7, hb7⟩
          have HI7 := Lib.hid (HI5.out.ext hb7)
          have hby5' := hby5.ext hb7
          have hbd : Below w7.heap.size w7 w7.drew := (Below.refl _ _).drew
          clear q5 hb7 hby5 hR
          rcases her with rfl | rfl
          · go_wp2_with fail
            refine wp_region_lexL (fun w' => w'.heap[w.heap.size]? = some (.cells #[.slice A1 3 c1] 24 (0, 0)) ∧ w'.heap[w.heap.size + 1]? = some (.cells #[.slice A2 3 c2] 24 (0, 0))) (by kernel_rfl) (by kernel_rfl) ⟨HI7.out.r0, HI7.out.r1⟩ ?_
            repeat (first | (refine lexL_q0 rfl ?_; go_big_quiet_step (fail); refine wpQuiet_nil ?_) | (refine lexL_skip0 rfl rfl ?_; simp only [Act.put, List.setIfInBounds_toArray, List.set_cons_succ, List.set_cons_zero]))
            refine lexL_ld (⟨w.heap.size, 0, none⟩) (.agg #[.slice A1 3 c1]) rfl rfl rfl (fun w' hS => run_ld_block hS.1 Try.underlying24 rfl (by kernel_rfl)) ?_
            simp only [Act.put, List.setIfInBounds_toArray, List.set_cons_succ, List.set_cons_zero]
            repeat (first | (refine lexL_q0 rfl ?_; go_big_quiet_step (fail); refine wpQuiet_nil ?_) | (refine lexL_skip0 rfl rfl ?_; simp only [Act.put, List.setIfInBounds_toArray, List.set_cons_succ, List.set_cons_zero]))
            refine lexL_ld (⟨w.heap.size + 1, 0, none⟩) (.agg #[.slice A2 3 c2]) rfl rfl rfl (fun w' hS => run_ld_block hS.2 Try.underlying24 rfl (by kernel_rfl)) ?_
            simp only [Act.put, List.setIfInBounds_toArray, List.set_cons_succ, List.set_cons_zero]
            repeat (first | (refine lexL_q0 rfl ?_; go_big_quiet_step (fail); refine wpQuiet_nil ?_) | (refine lexL_skip0 rfl rfl ?_; simp only [Act.put, List.setIfInBounds_toArray, List.set_cons_succ, List.set_cons_zero]))
            refine lexL_e rfl ?_
            go_wp2_with fail
            refine (samebytes_eq v5 v7 l _ _ w7.drew (hby5'.ext hbd) (hby7.ext hbd)).mono ?_
            rintro e w8 ⟨rfl, hb8⟩
            have HI8 := Lib.hid (HI7.out.ext (Below.ext hbd hb8))
            have HR0 := Lib.hid HI8.out.r0
            have HR1 := Lib.hid HI8.out.r1
            have HR2 := Lib.hid HI8.out.r2
            have HR3 := Lib.hid HI8.out.r3
            go_wp2_with fail
            refine lexL_go (⟨HR0.out, HR1.out⟩) ?_
            repeat (first | (refine lexL_q0 rfl ?_; go_big_quiet_step (fail); refine wpQuiet_nil ?_) | (refine lexL_skip0 rfl rfl ?_; simp only [Act.put, List.setIfInBounds_toArray, List.set_cons_succ, List.set_cons_zero]))
            refine lexL_e rfl ?_
            refine wpList_store_row rfl 24 _ _ rfl (w.heap.size + 2) 24 _ _ rfl rfl HR2.out (by kernel_rfl) rfl (by simp [Value.oneCell']) ?_
            refine lexL_go ⟨(setRow_other _ _ _ _ (by omega)).trans HR0.out, (setRow_other _ _ _ _ (by omega)).trans HR1.out⟩ ?_
            simp only [Act.put]
            repeat (first | (refine lexL_q0 rfl ?_; go_big_quiet_step (fail); refine wpQuiet_nil ?_) | (refine lexL_skip0 rfl rfl ?_; simp only [Act.put, List.setIfInBounds_toArray, List.set_cons_succ, List.set_cons_zero]))
            have hz3 : (w8.setRow (w.heap.size + 2) #[.slice A1 3 c1]).heap[w.heap.size + 3]? = some (.cells #[.slice none 0 0] 24 (0, 0)) := (setRow_other _ _ _ _ (by omega)).trans HR3.out
            have HZ3 := Lib.hid hz3
            clear hz3
            refine lexL_e rfl ?_
            refine wpList_store_row rfl 24 _ _ rfl (w.heap.size + 3) 24 _ _ rfl rfl HZ3.out (by kernel_rfl) rfl (by simp [Value.oneCell']) ?_
            refine lexL_go ⟨(setRow_other _ _ _ _ (by omega)).trans ((setRow_other _ _ _ _ (by omega)).trans HR0.out), (setRow_other _ _ _ _ (by omega)).trans ((setRow_other _ _ _ _ (by omega)).trans HR1.out)⟩ ?_
            simp only [Act.put]
            repeat (first | (refine lexL_q0 rfl ?_; go_big_quiet_step (fail); refine wpQuiet_nil ?_) | (refine lexL_skip0 rfl rfl ?_; simp only [Act.put, List.setIfInBounds_toArray, List.set_cons_succ, List.set_cons_zero]))
            refine lexL_nil ?_
            go_wp2_with fail
            go_wp2
            refine bodyPost_ret (results_cct rfl rfl rfl (run_ld_block ((setRow_other _ _ _ _ (by omega)).trans (setRow_heap _ _ _ _ _ _ HR2.out)) Try.underlying24 rfl (by kernel_rfl)) (run_ld_block (setRow_heap _ _ _ _ _ _ HZ3.out) Try.underlying24 rfl (by kernel_rfl))) rfl ?_
            have hfin := (HI8.out.fin (.slice A1 3 c1) (.slice A2 3 c2))
            exact ⟨A1, c1, A2, c2, fs, rfl, hfin.1, hfin.2.1, hfin.2.2 _ _ hSS HI8.out.d1 hSo, hfin.2.2 _ _ hSS HI8.out.d2 hSo, fun f hf => Nat.le_trans (hl f hf) (by omega)⟩
          · go_wp2_with fail
            refine wp_region_lexL (fun w' => w'.heap[w.heap.size]? = some (.cells #[.slice A1 3 c1] 24 (0, 0)) ∧ w'.heap[w.heap.size + 1]? = some (.cells #[.slice A2 3 c2] 24 (0, 0))) (by kernel_rfl) (by kernel_rfl) ⟨HI7.out.r0, HI7.out.r1⟩ ?_
            repeat (first | (refine lexL_q0 rfl ?_; go_big_quiet_step (fail); refine wpQuiet_nil ?_) | (refine lexL_skip0 rfl rfl ?_; simp only [Act.put, List.setIfInBounds_toArray, List.set_cons_succ, List.set_cons_zero]))
            refine lexL_ld (⟨w.heap.size, 0, none⟩) (.agg #[.slice A1 3 c1]) rfl rfl rfl (fun w' hS => run_ld_block hS.1 Try.underlying24 rfl (by kernel_rfl)) ?_
            simp only [Act.put, List.setIfInBounds_toArray, List.set_cons_succ, List.set_cons_zero]
            repeat (first | (refine lexL_q0 rfl ?_; go_big_quiet_step (fail); refine wpQuiet_nil ?_) | (refine lexL_skip0 rfl rfl ?_; simp only [Act.put, List.setIfInBounds_toArray, List.set_cons_succ, List.set_cons_zero]))
            refine lexL_ld (⟨w.heap.size + 1, 0, none⟩) (.agg #[.slice A2 3 c2]) rfl rfl rfl (fun w' hS => run_ld_block hS.2 Try.underlying24 rfl (by kernel_rfl)) ?_
            simp only [Act.put, List.setIfInBounds_toArray, List.set_cons_succ, List.set_cons_zero]
            repeat (first | (refine lexL_q0 rfl ?_; go_big_quiet_step (fail); refine wpQuiet_nil ?_) | (refine lexL_skip0 rfl rfl ?_; simp only [Act.put, List.setIfInBounds_toArray, List.set_cons_succ, List.set_cons_zero]))
            refine lexL_e rfl ?_
            go_wp2_with fail
            refine (samebytes_eq v5 v7 l _ _ w7.drew (hby5'.ext hbd) (hby7.ext hbd)).mono ?_
            rintro e w8 ⟨rfl, hb8⟩
            have HI8 := Lib.hid (HI7.out.ext (Below.ext hbd hb8))
            have HR0 := Lib.hid HI8.out.r0
            have HR1 := Lib.hid HI8.out.r1
            have HR2 := Lib.hid HI8.out.r2
            have HR3 := Lib.hid HI8.out.r3
            go_wp2_with fail
            refine lexL_go (⟨HR0.out, HR1.out⟩) ?_
            repeat (first | (refine lexL_q0 rfl ?_; go_big_quiet_step (fail); refine wpQuiet_nil ?_) | (refine lexL_skip0 rfl rfl ?_; simp only [Act.put, List.setIfInBounds_toArray, List.set_cons_succ, List.set_cons_zero]))
            refine lexL_e rfl ?_
            refine wpList_store_row rfl 24 _ _ rfl (w.heap.size + 2) 24 _ _ rfl rfl HR2.out (by kernel_rfl) rfl (by simp [Value.oneCell']) ?_
            refine lexL_go ⟨(setRow_other _ _ _ _ (by omega)).trans HR0.out, (setRow_other _ _ _ _ (by omega)).trans HR1.out⟩ ?_
            simp only [Act.put]
            repeat (first | (refine lexL_q0 rfl ?_; go_big_quiet_step (fail); refine wpQuiet_nil ?_) | (refine lexL_skip0 rfl rfl ?_; simp only [Act.put, List.setIfInBounds_toArray, List.set_cons_succ, List.set_cons_zero]))
            have hz3 : (w8.setRow (w.heap.size + 2) #[.slice A1 3 c1]).heap[w.heap.size + 3]? = some (.cells #[.slice none 0 0] 24 (0, 0)) := (setRow_other _ _ _ _ (by omega)).trans HR3.out
            have HZ3 := Lib.hid hz3
            clear hz3
            refine lexL_e rfl ?_
            refine wpList_store_row rfl 24 _ _ rfl (w.heap.size + 3) 24 _ _ rfl rfl HZ3.out (by kernel_rfl) rfl (by simp [Value.oneCell']) ?_
            refine lexL_go ⟨(setRow_other _ _ _ _ (by omega)).trans ((setRow_other _ _ _ _ (by omega)).trans HR0.out), (setRow_other _ _ _ _ (by omega)).trans ((setRow_other _ _ _ _ (by omega)).trans HR1.out)⟩ ?_
            simp only [Act.put]
            repeat (first | (refine lexL_q0 rfl ?_; go_big_quiet_step (fail); refine wpQuiet_nil ?_) | (refine lexL_skip0 rfl rfl ?_; simp only [Act.put, List.setIfInBounds_toArray, List.set_cons_succ, List.set_cons_zero]))
            refine lexL_nil ?_
            go_wp2_with fail
            go_wp2
            refine bodyPost_ret (results_cct rfl rfl rfl (run_ld_block ((setRow_other _ _ _ _ (by omega)).trans (setRow_heap _ _ _ _ _ _ HR2.out)) Try.underlying24 rfl (by kernel_rfl)) (run_ld_block (setRow_heap _ _ _ _ _ _ HZ3.out) Try.underlying24 rfl (by kernel_rfl))) rfl ?_
            have hfin := (HI8.out.fin (.slice A1 3 c1) (.slice A2 3 c2))
            exact ⟨A1, c1, A2, c2, fs, rfl, hfin.1, hfin.2.1, hfin.2.2 _ _ hSS HI8.out.d1 hSo, hfin.2.2 _ _ hSS HI8.out.d2 hSo, fun f hf => Nat.le_trans (hl f hf) (by omega)⟩
  case rest =>
    obtain ⟨r, rn, er, B1, e1, B2, e2, rfl, rfl, her, hI, hrM, hrN, hDx, hDy⟩ := hcut
    clear hI3 hC3 HI2 HM2 HN2 HM3 HN3
    rcases her with ⟨rfl, rfl⟩ | ⟨rfl, rfl, hlr⟩
    · skip
      have HI := Lib.hid hI
      clear hI
      have qM : wc.cell? ⟨w1.heap.size, 0, none⟩ = some (.slice B1 0 e1) := by rw [cell_of_row _ _ _ _ _ _ hrM]; rfl
      have qN : wc.cell? ⟨w1.heap.size + 1, 0, none⟩ = some (.slice B2 0 e2) := by rw [cell_of_row _ _ _ _ _ _ hrN]; rfl
      have HM := Lib.hid hrM
      have HN := Lib.hid hrN
      clear hrM hrN
      go_wp2_with fail
      refine (samedisk_eq B1 B2 0 e1 e2 r _ _ wc hDx hDy (by omega)).mono ?_
      rintro e w9 ⟨rfl, hb9⟩
      have hI9 := HI.out.ext hb9
      have HM9 := Lib.hid ((hb9.block w1.heap.size (Array.getElem?_eq_some_iff.1 HM.out).1).trans HM.out)
      have HN9 := Lib.hid ((hb9.block (w1.heap.size + 1) (Array.getElem?_eq_some_iff.1 HN.out).1).trans HN.out)
      have hDx9 := hDx.ext hb9
      have hDy9 := hDy.ext hb9
      have HI8 := Lib.hid hI9
      have HR0 := Lib.hid hI9.r0
      have HR1 := Lib.hid hI9.r1
      have HR2 := Lib.hid hI9.r2
      have HR3 := Lib.hid hI9.r3
      clear hI9 hDx hDy qM qN
      go_wp2_with fail
      refine wp_region_lexL (fun w' => w'.heap[w.heap.size]? = some (.cells #[.slice A1 3 c1] 24 (0, 0)) ∧ w'.heap[w.heap.size + 1]? = some (.cells #[.slice A2 3 c2] 24 (0, 0))) (by kernel_rfl) (by kernel_rfl) ⟨HR0.out, HR1.out⟩ ?_
      repeat (first | (refine lexL_q0 rfl ?_; go_big_quiet_step (fail); refine wpQuiet_nil ?_) | (refine lexL_skip0 rfl rfl ?_; simp only [Act.put, List.setIfInBounds_toArray, List.set_cons_succ, List.set_cons_zero]))
      refine lexL_ld (⟨w.heap.size, 0, none⟩) (.agg #[.slice A1 3 c1]) rfl rfl rfl (fun w' hS => run_ld_block hS.1 Try.underlying24 rfl (by kernel_rfl)) ?_
      simp only [Act.put, List.setIfInBounds_toArray, List.set_cons_succ, List.set_cons_zero]
      repeat (first | (refine lexL_q0 rfl ?_; go_big_quiet_step (fail); refine wpQuiet_nil ?_) | (refine lexL_skip0 rfl rfl ?_; simp only [Act.put, List.setIfInBounds_toArray, List.set_cons_succ, List.set_cons_zero]))
      refine lexL_ld (⟨w.heap.size + 1, 0, none⟩) (.agg #[.slice A2 3 c2]) rfl rfl rfl (fun w' hS => run_ld_block hS.2 Try.underlying24 rfl (by kernel_rfl)) ?_
      simp only [Act.put, List.setIfInBounds_toArray, List.set_cons_succ, List.set_cons_zero]
      repeat (first | (refine lexL_q0 rfl ?_; go_big_quiet_step (fail); refine wpQuiet_nil ?_) | (refine lexL_skip0 rfl rfl ?_; simp only [Act.put, List.setIfInBounds_toArray, List.set_cons_succ, List.set_cons_zero]))
      refine lexL_e rfl ?_
      refine wpList_store_row rfl 24 _ _ rfl (w.heap.size + 2) 24 _ _ rfl rfl HR2.out (by kernel_rfl) rfl (by simp [Value.oneCell']) ?_
      refine lexL_go ⟨(setRow_other _ _ _ _ (by omega)).trans HR0.out, (setRow_other _ _ _ _ (by omega)).trans HR1.out⟩ ?_
      simp only [Act.put]
      repeat (first | (refine lexL_q0 rfl ?_; go_big_quiet_step (fail); refine wpQuiet_nil ?_) | (refine lexL_skip0 rfl rfl ?_; simp only [Act.put, List.setIfInBounds_toArray, List.set_cons_succ, List.set_cons_zero]))
      have hz3 : (w9.drew.setRow (w.heap.size + 2) #[.slice A1 3 c1]).heap[w.heap.size + 3]? = some (.cells #[.slice none 0 0] 24 (0, 0)) := (setRow_other _ _ _ _ (by omega)).trans HR3.out
      have HZ3 := Lib.hid hz3
      clear hz3
      refine lexL_e rfl ?_
      refine wpList_store_row rfl 24 _ _ rfl (w.heap.size + 3) 24 _ _ rfl rfl HZ3.out (by kernel_rfl) rfl (by simp [Value.oneCell']) ?_
      refine lexL_go ⟨(setRow_other _ _ _ _ (by omega)).trans ((setRow_other _ _ _ _ (by omega)).trans HR0.out), (setRow_other _ _ _ _ (by omega)).trans ((setRow_other _ _ _ _ (by omega)).trans HR1.out)⟩ ?_
      simp only [Act.put]
      repeat (first | (refine lexL_q0 rfl ?_; go_big_quiet_step (fail); refine wpQuiet_nil ?_) | (refine lexL_skip0 rfl rfl ?_; simp only [Act.put, List.setIfInBounds_toArray, List.set_cons_succ, List.set_cons_zero]))
      refine lexL_nil ?_
      go_wp2_with fail
      go_wp2
      refine bodyPost_ret (results_cct rfl rfl rfl (run_ld_block ((setRow_other _ _ _ _ (by omega)).trans (setRow_heap _ _ _ _ _ _ HR2.out)) Try.underlying24 rfl (by kernel_rfl)) (run_ld_block (setRow_heap _ _ _ _ _ _ HZ3.out) Try.underlying24 rfl (by kernel_rfl))) rfl ?_
      have hfin := (HI8.out.drew.fin (.slice A1 3 c1) (.slice A2 3 c2))
      exact ⟨A1, c1, A2, c2, fs, rfl, hfin.1, hfin.2.1, hfin.2.2 _ _ hSS HI8.out.drew.d1 hSo, hfin.2.2 _ _ hSS HI8.out.drew.d2 hSo, fun f hf => Nat.le_trans (hl f hf) (by omega)⟩
    · skip
      have HI := Lib.hid hI
      clear hI
      have qM : wc.cell? ⟨w1.heap.size, 0, none⟩ = some (.slice B1 3 e1) := by rw [cell_of_row _ _ _ _ _ _ hrM]; rfl
      have qN : wc.cell? ⟨w1.heap.size + 1, 0, none⟩ = some (.slice B2 3 e2) := by rw [cell_of_row _ _ _ _ _ _ hrN]; rfl
      have HM := Lib.hid hrM
      have HN := Lib.hid hrN
      clear hrM hrN
      go_wp2_with fail
      refine (samedisk_eq B1 B2 3 e1 e2 r _ _ wc hDx hDy (by omega)).mono ?_
      rintro e w9 ⟨rfl, hb9⟩
      have hI9 := HI.out.ext hb9
      have HM9 := Lib.hid ((hb9.block w1.heap.size (Array.getElem?_eq_some_iff.1 HM.out).1).trans HM.out)
      have HN9 := Lib.hid ((hb9.block (w1.heap.size + 1) (Array.getElem?_eq_some_iff.1 HN.out).1).trans HN.out)
      have hDx9 := hDx.ext hb9
      have hDy9 := hDy.ext hb9
      have HI8 := Lib.hid hI9
      have HR0 := Lib.hid hI9.r0
      have HR1 := Lib.hid hI9.r1
      have HR2 := Lib.hid hI9.r2
      have HR3 := Lib.hid hI9.r3
      clear hI9 hDx hDy qM qN
      go_wp2_with fail
      refine wp_region_lexL (fun w' => w'.heap[w1.heap.size]? = some (.cells #[.slice B1 3 e1] 24 (0, 0)) ∧ w'.heap[w1.heap.size + 1]? = some (.cells #[.slice B2 3 e2] 24 (0, 0))) (by kernel_rfl) (by kernel_rfl) ⟨HM9.out, HN9.out⟩ ?_
      repeat (first | (refine lexL_q0 rfl ?_; go_big_quiet_step (fail); refine wpQuiet_nil ?_) | (refine lexL_skip0 rfl rfl ?_; simp only [Act.put, List.setIfInBounds_toArray, List.set_cons_succ, List.set_cons_zero]))
      refine lexL_ld (⟨w1.heap.size, 0, none⟩) (.agg #[.slice B1 3 e1]) rfl rfl rfl (fun w' hS => run_ld_block hS.1 Try.underlying24 rfl (by kernel_rfl)) ?_
      simp only [Act.put, List.setIfInBounds_toArray, List.set_cons_succ, List.set_cons_zero]
      repeat (first | (refine lexL_q0 rfl ?_; go_big_quiet_step (fail); refine wpQuiet_nil ?_) | (refine lexL_skip0 rfl rfl ?_; simp only [Act.put, List.setIfInBounds_toArray, List.set_cons_succ, List.set_cons_zero]))
      refine lexL_ld (⟨w1.heap.size + 1, 0, none⟩) (.agg #[.slice B2 3 e2]) rfl rfl rfl (fun w' hS => run_ld_block hS.2 Try.underlying24 rfl (by kernel_rfl)) ?_
      simp only [Act.put, List.setIfInBounds_toArray, List.set_cons_succ, List.set_cons_zero]
      repeat (first | (refine lexL_q0 rfl ?_; go_big_quiet_step (fail); refine wpQuiet_nil ?_) | (refine lexL_skip0 rfl rfl ?_; simp only [Act.put, List.setIfInBounds_toArray, List.set_cons_succ, List.set_cons_zero]))
      refine lexL_e rfl ?_
      refine wpList_store_row rfl 24 _ _ rfl (w.heap.size + 2) 24 _ _ rfl rfl HR2.out (by kernel_rfl) rfl (by simp [Value.oneCell']) ?_
      refine lexL_go ⟨(setRow_other _ _ _ _ (by omega)).trans HM9.out, (setRow_other _ _ _ _ (by omega)).trans HN9.out⟩ ?_
      simp only [Act.put]
      repeat (first | (refine lexL_q0 rfl ?_; go_big_quiet_step (fail); refine wpQuiet_nil ?_) | (refine lexL_skip0 rfl rfl ?_; simp only [Act.put, List.setIfInBounds_toArray, List.set_cons_succ, List.set_cons_zero]))
      have hz3 : (w9.drew.setRow (w.heap.size + 2) #[.slice B1 3 e1]).heap[w.heap.size + 3]? = some (.cells #[.slice none 0 0] 24 (0, 0)) := (setRow_other _ _ _ _ (by omega)).trans HR3.out
      have HZ3 := Lib.hid hz3
      clear hz3
      refine lexL_e rfl ?_
      refine wpList_store_row rfl 24 _ _ rfl (w.heap.size + 3) 24 _ _ rfl rfl HZ3.out (by kernel_rfl) rfl (by simp [Value.oneCell']) ?_
      refine lexL_go ⟨(setRow_other _ _ _ _ (by omega)).trans ((setRow_other _ _ _ _ (by omega)).trans HM9.out), (setRow_other _ _ _ _ (by omega)).trans ((setRow_other _ _ _ _ (by omega)).trans HN9.out)⟩ ?_
      simp only [Act.put]
      repeat (first | (refine lexL_q0 rfl ?_; go_big_quiet_step (fail); refine wpQuiet_nil ?_) | (refine lexL_skip0 rfl rfl ?_; simp only [Act.put, List.setIfInBounds_toArray, List.set_cons_succ, List.set_cons_zero]))
      refine lexL_nil ?_
      go_wp2_with fail
      go_wp2
      refine bodyPost_ret (results_cct rfl rfl rfl (run_ld_block ((setRow_other _ _ _ _ (by omega)).trans (setRow_heap _ _ _ _ _ _ HR2.out)) Try.underlying24 rfl (by kernel_rfl)) (run_ld_block (setRow_heap _ _ _ _ _ _ HZ3.out) Try.underlying24 rfl (by kernel_rfl))) rfl ?_
      have hfin := (HI8.out.drew.fin (.slice B1 3 e1) (.slice B2 3 e2))
      exact ⟨B1, e1, B2, e2, r, rfl, hfin.1, hfin.2.1, hfin.2.2 _ _ hSS (hDx9.ext (Below.refl _ _).drew) hSo, hfin.2.2 _ _ hSS (hDy9.ext (Below.refl _ _).drew) hSo, hlr⟩
end Go.Proofs.Ytmbbngdhdhgliaa
