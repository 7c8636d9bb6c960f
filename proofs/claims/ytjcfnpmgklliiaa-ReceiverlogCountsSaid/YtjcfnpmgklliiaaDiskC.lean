/-
  Joined from texts of ours: XTears, XTearsB, XDrawB, XOps.
-/
import Derived.Test.YtjcfnpmgklliiaaDiskA
import Derived.Test.YtjcfnpmgklliiaaKit
import Derived.Test.YtjcfnpmgklliiaaDraw
import Derived.Test.YtjcfnpmgklliiaaCodecA
import Derived.Test.YtjcfnpmgklliiaaDiskB
namespace Go.Proofs.Ytjcfnpmgklliiaa
open Go.RowKit
set_option maxRecDepth 100000
set_option linter.unusedVariables false

theorem encT_one' (x : TV) : ∀ u ∈ encT x, u.oneCell' = true := by
  intro u hu
  simp [encT] at hu
  rcases hu with rfl | rfl <;> rfl
/-- the tears that are drawn so far: the row of the call's own, and the lists of lost sectors elsewhere -/
def TrsOwn (base : Nat) (w : World) (v : Value) (ts : List Tear) : Prop := ∃ xs, OwnR encT 2 w base 57 v xs ∧ xs.length = ts.length ∧ ∀ (i : Nat) (x : TV) (t : Tear), xs[i]? = some x → ts[i]? = some t → x.keep = t.keep ∧ Recs encZ (fun b => base ≤ b ∧ v.ownBlock ≠ some b) w (.slice x.A x.n x.c) t.lost
theorem TrsOwn.nil_ (base : Nat) (w : World) : TrsOwn base w (.slice none 0 0) [] := ⟨[], OwnR.nil_ _ _ _, rfl, fun i x t hx => by simp at hx⟩
theorem TrsOwn.trs {base : Nat} {w : World} {v : Value} {ts : List Tear} (h : TrsOwn base w v ts) : Trs (base ≤ ·) w v ts := by
  obtain ⟨xs, h1, h2, h3⟩ := h
  exact ⟨xs, h1.recs.mono (fun _ _ h => h.1), h2, fun i x t hx ht => ⟨(h3 i x t hx ht).1, (h3 i x t hx ht).2.mono (fun _ _ h => h.1)⟩⟩
theorem TrsOwn.len {base : Nat} {w : World} {A : Option Addr} {n c : Nat} {ts : List Tear} (h : TrsOwn base w (.slice A n c) ts) : ts.length = n ∧ n ≤ c ∧ c ≤ 9223372036854775807 := h.trs.len
/-- a block below base may change -/
theorem TrsOwn.kept {base g : Nat} {w w' : World} {v : Value} {ts : List Tear} (h : TrsOwn base w v ts) (hg : w.grownBy w' (some g)) (hlt : g < base) : TrsOwn base w' v ts := by
  obtain ⟨xs, h1, h2, h3⟩ := h
  refine ⟨xs, h1.kept hg ?_, h2, fun i x t hx ht => ⟨(h3 i x t hx ht).1, (h3 i x t hx ht).2.keep (fun b hb hs => hg.block b hb (fun e => by cases e; omega))⟩⟩
  rcases Option.eq_none_or_eq_some v.ownBlock with h0 | ⟨m, h0⟩
  · exact .inl h0
  · refine .inr (fun e => ?_)
    rw [h0] at e
    cases e
    have := (World.ownsRow.lt h1 _ h0).1
    omega
theorem lost_keep {base : Nat} {w w' : World} {v v' : Value} {u : Value} {l : List Int} (h : Recs encZ (fun b => base ≤ b ∧ v.ownBlock ≠ some b) w u l) (hg : w.grownBy w' v.ownBlock) (hat : v'.ownBlock = v.ownBlock ∨ v'.ownBlock = some w.heap.size) :
    Recs encZ (fun b => base ≤ b ∧ v'.ownBlock ≠ some b) w' u l := by
  have h1 : Recs encZ (fun b => base ≤ b ∧ v.ownBlock ≠ some b ∧ b < w.heap.size) w u l := h.mono (fun b hb hs => ⟨hs.1, hs.2, hb⟩)
  refine (h1.keep (fun b hb hs => hg.block b hb (fun e => hs.2.1 e.symm))).mono (fun b _ hs => ⟨hs.1, fun e => ?_⟩)
  rcases hat with h2 | h2
  · exact hs.2.1 (h2.symm.trans e)
  · rw [h2] at e
    cases e
    exact Nat.lt_irrefl _ hs.2.2
theorem TrsOwn.push {base : Nat} {w w' : World} {v v' : Value} {ts : List Tear} {xs : List TV} (hx : xs.length = ts.length ∧ ∀ (i : Nat) (x : TV) (t : Tear), xs[i]? = some x → ts[i]? = some t → x.keep = t.keep ∧ Recs encZ (fun b => base ≤ b ∧ v.ownBlock ≠ some b) w (.slice x.A x.n x.c) t.lost)
    (x : TV) (t : Tear) (h1 : x.keep = t.keep) (h2 : Recs encZ (fun b => base ≤ b ∧ v.ownBlock ≠ some b) w (.slice x.A x.n x.c) t.lost) (hown : OwnR encT 2 w' base 57 v' (xs ++ [x])) (hg : w.grownBy w' v.ownBlock) (hat : v'.ownBlock = v.ownBlock ∨ v'.ownBlock = some w.heap.size) : TrsOwn base w' v' (ts ++ [t]) := by
  refine ⟨_, hown, by simp [hx.1], fun i x' t' hx' ht' => ?_⟩
  rcases Nat.lt_or_ge i xs.length with hi | hi
  · rw [List.getElem?_append_left hi] at hx'
    rw [List.getElem?_append_left (by omega)] at ht'
    obtain ⟨g1, g2⟩ := hx.2 i x' t' hx' ht'
    exact ⟨g1, lost_keep g2 hg hat⟩
  · rw [List.getElem?_append_right hi] at hx'
    rw [List.getElem?_append_right (by omega)] at ht'
    have hi' : i - xs.length = 0 := by
      rcases Nat.eq_zero_or_pos (i - xs.length) with h | h
      · exact h
      · rw [List.getElem?_eq_none (by simp; omega)] at hx'
        cases hx'
    rw [hi'] at hx'
    rw [← hx.1, hi'] at ht'
    cases hx'
    cases ht'
    exact ⟨h1, lost_keep h2 hg hat⟩
theorem infoTear : (Try.prog.info? 57).map (fun i => (i.zero, i.size, i.bytes)) = some (some (.agg #[.int .i64 0, .slice none 0 0]), 2, 32) := by kernel_rfl
theorem infoIn : (Try.prog.info? 3).map (fun i => (i.zero, i.size, i.bytes)) = some (some (.int .i64 0), 1, 8) := by kernel_rfl

theorem tornL_nil (k : Int) (l : List Int) : tornL [] k l = [] := by
  unfold tornL
  rw [List.take_nil]
  rfl
/-- two files, of which the first one is empty -/
theorem crash_two (f : Fil) (ts : List Tear) : crashL [zFil, f] ts = [zFil, ⟨f.s ++ tornL f.p (tearOf ts 1).keep (tearOf ts 1).lost, []⟩] := by
  simp [crashL, crashF, zFil, tornL_nil]
end Go.Proofs.Ytjcfnpmgklliiaa

namespace Go.Proofs.Ytjcfnpmgklliiaa
open Go.RowKit
set_option maxRecDepth 100000
set_option linter.unusedVariables false

end Go.Proofs.Ytjcfnpmgklliiaa

namespace Go.Proofs.Ytjcfnpmgklliiaa
open Go.RowKit
set_option maxRecDepth 100000
set_option linter.unusedVariables false
end Go.Proofs.Ytjcfnpmgklliiaa

namespace Go.Proofs.Ytjcfnpmgklliiaa
open Go.RowKit
set_option maxRecDepth 100000
set_option linter.unusedVariables false

/-- what a call that changes one file leaves, and its error -/
def OpR (g : Fil → Fil) (fs : List Fil) (n : Nat) (k : Int) (r : List Fil) (rn : Nat) (er : Int) : Prop :=
  (∃ (j : Nat) (f : Fil), k = (j : Int) ∧ fs[j]? = some f ∧ r = fs.set j (g f) ∧ rn = n ∧ er = 0) ∨ ((k < 0 ∨ (n : Int) ≤ k) ∧ r = [] ∧ rn = 0 ∧ er = 11)
def RdR (fs : List Fil) (n : Nat) (k : Int) (l : List UInt8) (er : Int) : Prop :=
  (∃ (j : Nat) (f : Fil), k = (j : Int) ∧ fs[j]? = some f ∧ l = f.s ++ f.p ∧ er = 0) ∨ ((k < 0 ∨ (n : Int) ≤ k) ∧ l = [] ∧ er = 11)
theorem OpR.ex (g : Fil → Fil) (fs : List Fil) (n : Nat) (k : Int) (h : fs.length = n) : ∃ r rn er, OpR g fs n k r rn er := by
  by_cases hk : k < 0 ∨ (n : Int) ≤ k
  · exact ⟨[], 0, 11, .inr ⟨hk, rfl, rfl, rfl⟩⟩
  · obtain ⟨j, rfl⟩ : ∃ j : Nat, k = (j : Int) := ⟨k.toNat, by omega⟩
    have hj : j < fs.length := by omega
    exact ⟨_, n, 0, .inl ⟨j, fs[j], rfl, List.getElem?_eq_getElem hj, rfl, rfl, rfl⟩⟩
theorem RdR.ex (fs : List Fil) (n : Nat) (k : Int) (h : fs.length = n) : ∃ l er, RdR fs n k l er := by
  by_cases hk : k < 0 ∨ (n : Int) ≤ k
  · exact ⟨[], 11, .inr ⟨hk, rfl, rfl⟩⟩
  · obtain ⟨j, rfl⟩ : ∃ j : Nat, k = (j : Int) := ⟨k.toNat, by omega⟩
    have hj : j < fs.length := by omega
    exact ⟨_, 0, .inl ⟨j, fs[j], rfl, List.getElem?_eq_getElem hj, rfl, rfl⟩⟩
def flen (f : Fil) : Nat := f.s.length + f.p.length
theorem OpR.spec {g : Fil → Fil} {fs : List Fil} {n : Nat} {k : Int} {r : List Fil} {rn : Nat} {er : Int} (h : OpR g fs n k r rn er) {m m' : Nat} (hm : m ≤ m') (hl : ∀ f ∈ fs, flen f ≤ m) (hg : ∀ f, flen f ≤ m → flen (g f) ≤ m') :
    (er = 11 ∧ rn = 0) ∨ (er = 0 ∧ rn = n ∧ ∀ f ∈ r, flen f ≤ m') := by
  rcases h with ⟨j, f, rfl, hf, rfl, rfl, rfl⟩ | ⟨_, rfl, rfl, rfl⟩
  · refine .inr ⟨rfl, rfl, fun x hx => ?_⟩
    rcases List.mem_or_eq_of_mem_set hx with hx | rfl
    · exact Nat.le_trans (hl x hx) hm
    · exact hg f (hl f (List.mem_of_getElem? hf))
  · exact .inl ⟨rfl, rfl⟩
theorem RdR.spec {fs : List Fil} {n : Nat} {k : Int} {l : List UInt8} {er : Int} (h : RdR fs n k l er) : er = 11 ∨ er = 0 := by
  rcases h with ⟨j, f, rfl, hf, rfl, rfl⟩ | ⟨_, rfl, rfl⟩
  · exact .inr rfl
  · exact .inl rfl

theorem append_go (A : Option Addr) (n c : Nat) (fs : List Fil) (S : Nat → Prop) (w : World) (hD : Dsk S w (.slice A n c) fs) (hn : n ≤ 1000) (k : Int) (Ab : Option Addr) (nb cb : Nat) (lb : List UInt8) (hb : By S w (.slice Ab nb cb) lb) (hnb : nb ≤ 30000) (hlen : ∀ f ∈ fs, flen f ≤ 30000) (r : List Fil) (rn : Nat) (er : Int) (hR : OpR (fun f => ⟨f.s, f.p ++ lb⟩) fs n k r rn er) :
    Calls Try.prog 65 #[.agg #[.slice A n c], .int .i64 k, .slice Ab nb cb] w fun e w' => ∃ A' c', e = .returned (.tuple #[.agg #[.slice A' rn c'], .int .i64 er]) ∧ Dsk (fun b => S b ∨ w.heap.size ≤ b) w' (.slice A' rn c') r ∧ Below w.heap.size w w' := by
  rcases hR with ⟨j, f, rfl, hf, rfl, rfl, rfl⟩ | ⟨hk, rfl, rfl, rfl⟩
  · have hl := hlen f (List.mem_of_getElem? hf)
    unfold flen at hl
    exact append_ok A _ c fs S w hD hn j f hf Ab nb cb lb hb (by omega)
  · refine (append_no A n c k hk hn Ab nb cb w).mono ?_
    rintro e w' ⟨rfl, hb⟩
    exact ⟨none, 0, rfl, Dsk.nil_ _ _, hb⟩

theorem replace_go (A : Option Addr) (n c : Nat) (fs : List Fil) (S : Nat → Prop) (w : World) (hD : Dsk S w (.slice A n c) fs) (hn : n ≤ 1000) (k : Int) (Ab : Option Addr) (nb cb : Nat) (lb : List UInt8) (hb : By S w (.slice Ab nb cb) lb) (hnb : nb ≤ 30000) (hlen : ∀ f ∈ fs, flen f ≤ 30000) (r : List Fil) (rn : Nat) (er : Int) (hR : OpR (fun _ => ⟨lb, []⟩) fs n k r rn er) :
    Calls Try.prog 61 #[.agg #[.slice A n c], .int .i64 k, .slice Ab nb cb] w fun e w' => ∃ A' c', e = .returned (.tuple #[.agg #[.slice A' rn c'], .int .i64 er]) ∧ Dsk (fun b => S b ∨ w.heap.size ≤ b) w' (.slice A' rn c') r ∧ Below w.heap.size w w' := by
  rcases hR with ⟨j, f, rfl, hf, rfl, rfl, rfl⟩ | ⟨hk, rfl, rfl, rfl⟩
  · have hl := hlen f (List.mem_of_getElem? hf)
    unfold flen at hl
    exact replace_ok A _ c fs S w hD hn j (by have := (List.getElem?_eq_some_iff.1 hf).1; have := hD.len; omega) Ab nb cb lb S hb (by omega)
  · refine (replace_no A n c k hk hn Ab nb cb w).mono ?_
    rintro e w' ⟨rfl, hb⟩
    exact ⟨none, 0, rfl, Dsk.nil_ _ _, hb⟩

theorem sync_go (A : Option Addr) (n c : Nat) (fs : List Fil) (S : Nat → Prop) (w : World) (hD : Dsk S w (.slice A n c) fs) (hn : n ≤ 1000) (k : Int) (hlen : ∀ f ∈ fs, flen f ≤ 30000) (r : List Fil) (rn : Nat) (er : Int) (hR : OpR (fun f => ⟨f.s ++ f.p, []⟩) fs n k r rn er) :
    Calls Try.prog 31 #[.agg #[.slice A n c], .int .i64 k] w fun e w' => ∃ A' c', e = .returned (.tuple #[.agg #[.slice A' rn c'], .int .i64 er]) ∧ Dsk (fun b => S b ∨ w.heap.size ≤ b) w' (.slice A' rn c') r ∧ Below w.heap.size w w' := by
  rcases hR with ⟨j, f, rfl, hf, rfl, rfl, rfl⟩ | ⟨hk, rfl, rfl, rfl⟩
  · have hl := hlen f (List.mem_of_getElem? hf)
    unfold flen at hl
    exact sync_ok A _ c fs S w hD hn j f hf (by omega)
  · refine (sync_no A n c k hk hn w).mono ?_
    rintro e w' ⟨rfl, hb⟩
    exact ⟨none, 0, rfl, Dsk.nil_ _ _, hb⟩

theorem read_go (A : Option Addr) (n c : Nat) (fs : List Fil) (S : Nat → Prop) (w : World) (hD : Dsk S w (.slice A n c) fs) (hn : n ≤ 1000) (k : Int) (hlen : ∀ f ∈ fs, flen f ≤ 30000) (l : List UInt8) (er : Int) (hR : RdR fs n k l er) :
    Calls Try.prog 58 #[.agg #[.slice A n c], .int .i64 k] w fun e w' => ∃ v, e = .returned (.tuple #[v, .int .i64 er]) ∧ By (fun _ => True) w' v l ∧ Below w.heap.size w w' := by
  rcases hR with ⟨j, f, rfl, hf, rfl, rfl⟩ | ⟨hk, rfl, rfl⟩
  · have hl := hlen f (List.mem_of_getElem? hf)
    unfold flen at hl
    refine (read_ok A n c fs S w hD hn j f hf (by omega)).mono ?_
    rintro e w' ⟨A', c', rfl, ho, hb⟩
    exact ⟨_, rfl, ho.recs.mono (fun _ _ _ => trivial), hb⟩
  · refine (read_no A n c k hk hn w).mono ?_
    rintro e w' ⟨rfl, hb⟩
    exact ⟨_, rfl, Recs.nil_ _ _, hb⟩

theorem refappend_go (A : Option Addr) (n c : Nat) (fs : List Fil) (S : Nat → Prop) (w : World) (hD : Dsk S w (.slice A n c) fs) (hn : n ≤ 1000) (k : Int) (Ab : Option Addr) (nb cb : Nat) (lb : List UInt8) (hb : By S w (.slice Ab nb cb) lb) (hnb : nb ≤ 30000) (hlen : ∀ f ∈ fs, flen f ≤ 30000) (r : List Fil) (rn : Nat) (er : Int) (hR : OpR (fun f => ⟨f.s, f.p ++ lb⟩) fs n k r rn er) :
    Calls Try.prog 66 #[.agg #[.slice A n c], .int .i64 k, .slice Ab nb cb] w fun e w' => ∃ A' c', e = .returned (.tuple #[.agg #[.slice A' rn c'], .int .i64 er]) ∧ Dsk (fun b => S b ∨ w.heap.size ≤ b) w' (.slice A' rn c') r ∧ Below w.heap.size w w' := by
  rcases hR with ⟨j, f, rfl, hf, rfl, rfl, rfl⟩ | ⟨hk, rfl, rfl, rfl⟩
  · have hl := hlen f (List.mem_of_getElem? hf)
    unfold flen at hl
    exact refappend_ok A _ c fs S w hD hn j f hf Ab nb cb lb hb (by omega)
  · refine (refappend_no A n c k hk hn Ab nb cb w).mono ?_
    rintro e w' ⟨rfl, hb⟩
    exact ⟨none, 0, rfl, Dsk.nil_ _ _, hb⟩

theorem refreplace_go (A : Option Addr) (n c : Nat) (fs : List Fil) (S : Nat → Prop) (w : World) (hD : Dsk S w (.slice A n c) fs) (hn : n ≤ 1000) (k : Int) (Ab : Option Addr) (nb cb : Nat) (lb : List UInt8) (hb : By S w (.slice Ab nb cb) lb) (hnb : nb ≤ 30000) (hlen : ∀ f ∈ fs, flen f ≤ 30000) (r : List Fil) (rn : Nat) (er : Int) (hR : OpR (fun _ => ⟨lb, []⟩) fs n k r rn er) :
    Calls Try.prog 67 #[.agg #[.slice A n c], .int .i64 k, .slice Ab nb cb] w fun e w' => ∃ A' c', e = .returned (.tuple #[.agg #[.slice A' rn c'], .int .i64 er]) ∧ Dsk (fun b => S b ∨ w.heap.size ≤ b) w' (.slice A' rn c') r ∧ Below w.heap.size w w' := by
  rcases hR with ⟨j, f, rfl, hf, rfl, rfl, rfl⟩ | ⟨hk, rfl, rfl, rfl⟩
  · have hl := hlen f (List.mem_of_getElem? hf)
    unfold flen at hl
    exact refreplace_ok A _ c fs S w hD hn j (by have := (List.getElem?_eq_some_iff.1 hf).1; have := hD.len; omega) Ab nb cb lb S hb (by omega)
  · refine (refreplace_no A n c k hk hn Ab nb cb w).mono ?_
    rintro e w' ⟨rfl, hb⟩
    exact ⟨none, 0, rfl, Dsk.nil_ _ _, hb⟩

theorem refsync_go (A : Option Addr) (n c : Nat) (fs : List Fil) (S : Nat → Prop) (w : World) (hD : Dsk S w (.slice A n c) fs) (hn : n ≤ 1000) (k : Int) (hlen : ∀ f ∈ fs, flen f ≤ 30000) (r : List Fil) (rn : Nat) (er : Int) (hR : OpR (fun f => ⟨f.s ++ f.p, []⟩) fs n k r rn er) :
    Calls Try.prog 101 #[.agg #[.slice A n c], .int .i64 k] w fun e w' => ∃ A' c', e = .returned (.tuple #[.agg #[.slice A' rn c'], .int .i64 er]) ∧ Dsk (fun b => S b ∨ w.heap.size ≤ b) w' (.slice A' rn c') r ∧ Below w.heap.size w w' := by
  rcases hR with ⟨j, f, rfl, hf, rfl, rfl, rfl⟩ | ⟨hk, rfl, rfl, rfl⟩
  · have hl := hlen f (List.mem_of_getElem? hf)
    unfold flen at hl
    exact refsync_ok A _ c fs S w hD hn j f hf (by omega)
  · refine (refsync_no A n c k hk hn w).mono ?_
    rintro e w' ⟨rfl, hb⟩
    exact ⟨none, 0, rfl, Dsk.nil_ _ _, hb⟩

theorem refread_go (A : Option Addr) (n c : Nat) (fs : List Fil) (S : Nat → Prop) (w : World) (hD : Dsk S w (.slice A n c) fs) (hn : n ≤ 1000) (k : Int) (hlen : ∀ f ∈ fs, flen f ≤ 30000) (l : List UInt8) (er : Int) (hR : RdR fs n k l er) :
    Calls Try.prog 63 #[.agg #[.slice A n c], .int .i64 k] w fun e w' => ∃ v, e = .returned (.tuple #[v, .int .i64 er]) ∧ By (fun _ => True) w' v l ∧ Below w.heap.size w w' := by
  rcases hR with ⟨j, f, rfl, hf, rfl, rfl⟩ | ⟨hk, rfl, rfl⟩
  · have hl := hlen f (List.mem_of_getElem? hf)
    unfold flen at hl
    refine (refread_ok A n c fs S w hD hn j f hf (by omega)).mono ?_
    rintro e w' ⟨A', c', rfl, ho, hb⟩
    exact ⟨_, rfl, ho.recs.mono (fun _ _ _ => trivial), hb⟩
  · refine (refread_no A n c k hk hn w).mono ?_
    rintro e w' ⟨rfl, hb⟩
    exact ⟨_, rfl, Recs.nil_ _ _, hb⟩

/-- what holds of the memory all along a step: the drawer, the boxes of the two disks, the boxes of the results -/
structure SI (B g : Nat) (SS : Nat → Prop) (w : World) (A1 : Option Addr) (c1 : Nat) (A2 : Option Addr) (c2 : Nat) (n : Nat) (fs : List Fil) (wr : World) : Prop where
  cod : Cod B wr g
  lt : g < w.heap.size
  gr : w.grownBy wr (some g)
  r0 : wr.heap[w.heap.size]? = some (.cells #[.slice A1 n c1] 45 (0, 0))
  r1 : wr.heap[w.heap.size + 1]? = some (.cells #[.slice A2 n c2] 45 (0, 0))
  r2 : wr.heap[w.heap.size + 2]? = some (.cells #[.slice none 0 0] 45 (0, 0))
  r3 : wr.heap[w.heap.size + 3]? = some (.cells #[.slice none 0 0] 45 (0, 0))
  d1 : Dsk SS wr (.slice A1 n c1) fs
  d2 : Dsk SS wr (.slice A2 n c2) fs
section
variable {B g : Nat} {SS : Nat → Prop} {w : World} {A1 : Option Addr} {c1 : Nat} {A2 : Option Addr} {c2 n : Nat} {fs : List Fil} {wr wr' : World}
theorem SI.le (h : SI B g SS w A1 c1 A2 c2 n fs wr) : w.heap.size + 4 ≤ wr.heap.size := (Array.getElem?_eq_some_iff.1 h.r3).1
theorem SI.ext (h : SI B g SS w A1 c1 A2 c2 n fs wr) (hb : Below wr.heap.size wr wr') : SI B g SS w A1 c1 A2 c2 n fs wr' :=
  have hl := h.le
  ⟨h.cod.ext hb, h.lt, grown_trans h.gr (grown_of_below hb _), (hb.block _ (by omega)).trans h.r0, (hb.block _ (by omega)).trans h.r1, (hb.block _ (by omega)).trans h.r2, (hb.block _ (by omega)).trans h.r3, h.d1.ext hb, h.d2.ext hb⟩
theorem SI.draw (h : SI B g SS w A1 c1 A2 c2 n fs wr) (hC : Cod B wr' g) (hg : wr.grownBy wr' (some g)) (hS : ∀ b, SS b → b ≠ g) : SI B g SS w A1 c1 A2 c2 n fs wr' :=
  have hl := h.le
  have hlt := h.lt
  have hk : Keep SS wr wr' := fun b hb hs => hg.block b hb (by simpa using hS b hs)
  ⟨hC, h.lt, grown_trans h.gr hg, (hg.block _ (by omega) (by simp; omega)).trans h.r0, (hg.block _ (by omega) (by simp; omega)).trans h.r1, (hg.block _ (by omega) (by simp; omega)).trans h.r2, (hg.block _ (by omega) (by simp; omega)).trans h.r3, h.d1.keep hk, h.d2.keep hk⟩
theorem SI.set (h : SI B g SS w A1 c1 A2 c2 n fs wr) {m : Nat} (hm : w.heap.size + 4 ≤ m) (hg : wr.grownBy wr' (some m)) (hS : ∀ b, SS b → b ≠ m) : SI B g SS w A1 c1 A2 c2 n fs wr' :=
  have hl := h.le
  have hlt := h.lt
  have hB := h.cod.1
  have hk : Keep SS wr wr' := fun b hb hs => hg.block b hb (by simpa using hS b hs)
  ⟨h.cod.grown hg (fun x hx => by cases hx; omega), h.lt, grown_new h.gr hg (fun x hx => by cases hx; omega), (hg.block _ (by omega) (by simp; omega)).trans h.r0, (hg.block _ (by omega) (by simp; omega)).trans h.r1, (hg.block _ (by omega) (by simp; omega)).trans h.r2, (hg.block _ (by omega) (by simp; omega)).trans h.r3, h.d1.keep hk, h.d2.keep hk⟩
end
theorem results_cct {P : Program} {fn : Func} {tmps : Array Value} {w : World} {a b u : Tmp} {t t' : TypeId} {A A' : Addr} {x y : Value} (h : fn.results = #[.cell a t, .cell b t', .tmp u]) (ha : tmps.getD a undef = .pointer (some A)) (hb : tmps.getD b undef = .pointer (some A')) (hl : (loadVar t A).run P w = .ok x w) (hl' : (loadVar t' A').run P w = .ok y w) : (results fn tmps).run P w = .ok (.tuple #[x, y, tmps.getD u undef]) w := by
  have ha' : tmps[a]?.getD undef = .pointer (some A) := by simpa using ha
  have hb' : tmps[b]?.getD undef = .pointer (some A') := by simpa using hb
  simp [results, h, asAddr, ha', hb', hl, hl']
end Go.Proofs.Ytjcfnpmgklliiaa
