/-
  The drawn acts of law 30.
-/
import Derived.Test.YtjcfnpmgklliiaaRlE
namespace Go.Proofs.Ytjcfnpmgklliiaa
open Go.RowKit
set_option maxRecDepth 100000
set_option linter.unusedVariables false
set_option linter.unusedSimpArgs false

/-- an act in memory -/
structure AcV where
  kind : Int
  d : Dt
  n : Int
  keep : Int
  L : Option Addr
  nl : Nat
  cl : Nat
def encAc (x : AcV) : List Value := [.int .i64 x.kind, .int .i64 x.d.proc, .int .i64 x.d.index, .int .i64 x.d.ev.k0, .int .i64 x.d.ev.k1, .int .i64 x.d.ev.k2, .int .i64 x.d.ev.k3, .int .i64 x.d.ev.k4, .int .i64 x.d.ev.k5, .int .i64 x.d.ev.k6, .int .i64 x.n, .int .i64 x.keep, .slice x.L x.nl x.cl]
theorem encAc_len (x : AcV) : (encAc x).length = 13 := rfl
theorem encAc_one (x : AcV) : ∀ u ∈ encAc x, u.oneCell' = true := by
  intro u hu
  simp [encAc] at hu
  rcases hu with h | h | h | h | h | h | h | h | h | h | h | h | h <;> subst h <;> rfl
theorem infoAc : (Try.prog.info? 77).map (fun i => (i.zero, i.size, i.bytes)) = some (some (.agg #[.int .i64 0, .int .i64 0, .int .i64 0, .int .i64 0, .int .i64 0, .int .i64 0, .int .i64 0, .int .i64 0, .int .i64 0, .int .i64 0, .int .i64 0, .int .i64 0, .slice none 0 0]), 13, 120) := by kernel_rfl
structure Act30 where
  kind : Nat
  d : Dt
  n : Int
  keep : Int
  lost : List Int
def ActIn (lb : Bool) (t : Act30) : Prop := t.kind < 9 ∧ DtIn t.d ∧ -1 ≤ t.n ∧ t.n ≤ 3 ∧ -10 ≤ t.keep ∧ t.keep ≤ 300 ∧ t.lost.length ≤ 1 ∧ (lb = false → t.lost = [])
def ActOk (S : Nat → Prop) (w : World) (x : AcV) (t : Act30) : Prop := x.kind = (t.kind : Int) ∧ x.d = t.d ∧ x.n = t.n ∧ x.keep = t.keep ∧ Recs encZ S w (.slice x.L x.nl x.cl) t.lost
def Acts (S : Nat → Prop) (w : World) (v : Value) (ts : List Act30) : Prop := ∃ xs, Recs encAc S w v xs ∧ xs.length = ts.length ∧ ∀ (i : Nat) (x : AcV) (t : Act30), xs[i]? = some x → ts[i]? = some t → ActOk S w x t
def ActsOwn (base : Nat) (w : World) (v : Value) (ts : List Act30) : Prop := ∃ xs, OwnR encAc 13 w base 77 v xs ∧ xs.length = ts.length ∧ ∀ (i : Nat) (x : AcV) (t : Act30), xs[i]? = some x → ts[i]? = some t → ActOk (fun b => base ≤ b ∧ v.ownBlock ≠ some b) w x t
theorem Acts.keep {S : Nat → Prop} {w w' : World} {v : Value} {ts : List Act30} (h : Acts S w v ts) (hk : Keep S w w') : Acts S w' v ts := by
  obtain ⟨xs, h1, h2, h3⟩ := h
  exact ⟨xs, h1.keep hk, h2, fun i x t hx ht => by obtain ⟨g1, g2, g3, g4, g5⟩ := h3 i x t hx ht; exact ⟨g1, g2, g3, g4, g5.keep hk⟩⟩
theorem Acts.ext {S : Nat → Prop} {w w' : World} {v : Value} {ts : List Act30} (h : Acts S w v ts) (hb : Below w.heap.size w w') : Acts S w' v ts := h.keep (Keep.of_below hb)
theorem Acts.mono {S S' : Nat → Prop} {w : World} {v : Value} {ts : List Act30} (h : Acts S w v ts) (hs : ∀ b, b < w.heap.size → S b → S' b) : Acts S' w v ts := by
  obtain ⟨xs, h1, h2, h3⟩ := h
  exact ⟨xs, h1.mono hs, h2, fun i x t hx ht => by obtain ⟨g1, g2, g3, g4, g5⟩ := h3 i x t hx ht; exact ⟨g1, g2, g3, g4, g5.mono hs⟩⟩
theorem Acts.len {S : Nat → Prop} {w : World} {A : Option Addr} {n c : Nat} {ts : List Act30} (h : Acts S w (.slice A n c) ts) : ts.length = n ∧ n ≤ c ∧ c ≤ 9223372036854775807 := by
  obtain ⟨xs, h1, h2, _⟩ := h
  rw [← h2]
  exact h1.len
theorem ActsOwn.acts {base : Nat} {w : World} {v : Value} {ts : List Act30} (h : ActsOwn base w v ts) : Acts (base ≤ ·) w v ts := by
  obtain ⟨xs, h1, h2, h3⟩ := h
  exact ⟨xs, h1.recs.mono (fun _ _ h => h.1), h2, fun i x t hx ht => by obtain ⟨g1, g2, g3, g4, g5⟩ := h3 i x t hx ht; exact ⟨g1, g2, g3, g4, g5.mono (fun _ _ h => h.1)⟩⟩
theorem ActsOwn.nil_ (base : Nat) (w : World) : ActsOwn base w (.slice none 0 0) [] := ⟨[], OwnR.nil_ _ _ _, rfl, fun i x t hx => by simp at hx⟩
/-- a block below base may change, or new ones be made -/
theorem ActsOwn.kept {base g : Nat} {w w' : World} {v : Value} {ts : List Act30} (h : ActsOwn base w v ts) (hg : w.grownBy w' (some g)) (hlt : g < base) : ActsOwn base w' v ts := by
  obtain ⟨xs, h1, h2, h3⟩ := h
  exact ⟨xs, h1.kept hg (h1.ne_ hlt), h2, fun i x t hx ht => by obtain ⟨g1, g2, g3, g4, g5⟩ := h3 i x t hx ht; exact ⟨g1, g2, g3, g4, g5.keep (fun b hb hs => hg.block b hb (by simp; omega))⟩⟩
theorem ActsOwn.ext {base : Nat} {w w' : World} {v : Value} {ts : List Act30} (h : ActsOwn base w v ts) (hb : Below w.heap.size w w') : ActsOwn base w' v ts := by
  obtain ⟨xs, h1, h2, h3⟩ := h
  exact ⟨xs, h1.ext hb, h2, fun i x t hx ht => by obtain ⟨g1, g2, g3, g4, g5⟩ := h3 i x t hx ht; exact ⟨g1, g2, g3, g4, g5.ext hb⟩⟩
/-- a block that is not there where the acts lie may change -/
theorem ActsOwn.new_ {base g : Nat} {w w1 w' : World} {v : Value} {ts : List Act30} (h : ActsOwn base w v ts) (hb : Below w.heap.size w w1) (hg : w1.grownBy w' (some g)) (hlt : w.heap.size ≤ g) : ActsOwn base w' v ts := h.ext (Below.grow hb hg hlt)
theorem ActsOwn.push {base : Nat} {w w' : World} {v v' : Value} {ts : List Act30} {xs : List AcV} (hx : xs.length = ts.length ∧ ∀ (i : Nat) (x : AcV) (t : Act30), xs[i]? = some x → ts[i]? = some t → ActOk (fun b => base ≤ b ∧ v.ownBlock ≠ some b) w x t)
    (x : AcV) (t : Act30) (h1 : ActOk (fun b => base ≤ b ∧ v.ownBlock ≠ some b) w x t) (hown : OwnR encAc 13 w' base 77 v' (xs ++ [x])) (hg : w.grownBy w' v.ownBlock) (hat : v'.ownBlock = v.ownBlock ∨ v'.ownBlock = some w.heap.size) : ActsOwn base w' v' (ts ++ [t]) := by
  have up : ∀ x t, ActOk (fun b => base ≤ b ∧ v.ownBlock ≠ some b) w x t → ActOk (fun b => base ≤ b ∧ v'.ownBlock ≠ some b) w' x t := fun x t h => ⟨h.1, h.2.1, h.2.2.1, h.2.2.2.1, lost_keep h.2.2.2.2 hg hat⟩
  refine ⟨_, hown, by simp [hx.1], fun i x' t' hx' ht' => ?_⟩
  rcases Nat.lt_or_ge i xs.length with hi | hi
  · rw [List.getElem?_append_left hi] at hx'
    rw [List.getElem?_append_left (by omega)] at ht'
    exact up _ _ (hx.2 i x' t' hx' ht')
  · rw [List.getElem?_append_right hi] at hx'
    rw [List.getElem?_append_right (by omega)] at ht'
    have hi' : i - xs.length = 0 := by
      rcases Nat.eq_zero_or_pos (i - xs.length) with h | h
      · exact h
      · rw [List.getElem?_eq_none (by simp; omega)] at hx'
        cases hx'
    rw [hi'] at hx'
    rw [← hx.1, hi'] at ht'
    cases hx'
    cases ht'
    exact up _ _ h1
theorem codleft_any (B g : Nat) (w : World) (h : Cod B w g) : Calls Try.prog 70 #[.pointer (some ⟨g, 0, none⟩)] w fun e w' => ∃ bb : Bool, e = .returned (.bool bb) ∧ Below w.heap.size w w' := by
  obtain ⟨hB, A, c, l, k, hr, hby, hk, hl⟩ := h
  refine (codleft_at g k l.length c A w _ hr hl hk).mono ?_
  rintro e w' ⟨rfl, rfl⟩
  exact ⟨_, rfl, (Below.refl _ _).drew⟩
/-- cells in the middle of a block are stored over -/
theorem heap_setCells9 {w : World} {b : Nat} {t : TypeId} {c0 c1 c2 c3 c4 c5 c6 c7 c8 c9 c10 c11 c12 : Value} (v1 v2 v3 v4 v5 v6 v7 v8 v9 : Value) (h : w.heap[b]? = some (.cells #[c0, c1, c2, c3, c4, c5, c6, c7, c8, c9, c10, c11, c12] t (0, 0))) :
    (w.setCells b 1 [v1, v2, v3, v4, v5, v6, v7, v8, v9]).heap[b]? = some (.cells #[c0, v1, v2, v3, v4, v5, v6, v7, v8, v9, c10, c11, c12] t (0, 0)) := by
  simp only [World.setCells]
  have h9 := (heap_setCell_same _ b 9 _ _ v9 (heap_setCell_same _ b 8 _ _ v8 (heap_setCell_same _ b 7 _ _ v7 (heap_setCell_same _ b 6 _ _ v6 (heap_setCell_same _ b 5 _ _ v5 (heap_setCell_same _ b 4 _ _ v4 (heap_setCell_same _ b 3 _ _ v3 (heap_setCell_same _ b 2 _ _ v2 (heap_setCell_same _ b 1 _ _ v1 h)))))))))
  simpa using h9
theorem grown_setCells {w : World} {b : Nat} : ∀ (vs : List Value) (o : Nat) (w' : World), w.grownBy w' (some b) → w.grownBy (w'.setCells b o vs) (some b)
  | [], _, _, h => h
  | v :: vs, o, w', h => by
    rw [World.setCells]
    exact grown_setCells vs (o + 1) _ (grown_set h)
theorem there_row {w : World} {b : Nat} {C : Array Value} {t : TypeId} (h : w.heap[b]? = some (.cells C t (0, 0))) (o n : Nat) (hn : o + n ≤ C.size) : w.there b o n := fun j hj => ⟨by
  rw [cell_of_row _ _ _ _ _ _ h, Array.getElem?_eq_getElem (by omega)]
  rfl, frozen_of_row _ _ _ _ _ h⟩
def zDt : Dt := ⟨0, 0, 0, 0, 0, 0, 0, 0, 0⟩
theorem zDt_in : DtIn zDt := by
  intro z hz
  simp [zDt, Dt.l, Ev.l] at hz
  subst hz
  exact ⟨by omega, by omega⟩
theorem OwnR.keepR {α : Type} {enc : α → List Value} {k : Nat} {w w' : World} {base : Nat} {e : TypeId} {v : Value} {l : List α} (h : OwnR enc k w base e v l) (hk : ∀ b, b < w.heap.size → base ≤ b → w'.heap[b]? = w.heap[b]?) : OwnR enc k w' base e v l := by
  refine ⟨h.1, ?_⟩
  rcases h.2 with hn | ⟨g, cap, cur, hv, hb, hh, rest⟩
  · exact .inl hn
  · exact .inr ⟨g, cap, cur, hv, hb, (hk g (Array.getElem?_eq_some_iff.1 hh).1 hb).trans hh, rest⟩
theorem ActsOwn.keepR {base : Nat} {w w' : World} {v : Value} {ts : List Act30} (h : ActsOwn base w v ts) (hk : ∀ b, b < w.heap.size → base ≤ b → w'.heap[b]? = w.heap[b]?) : ActsOwn base w' v ts := by
  obtain ⟨xs, h1, h2, h3⟩ := h
  exact ⟨xs, h1.keepR hk, h2, fun i x t hx ht => by obtain ⟨g1, g2, g3, g4, g5⟩ := h3 i x t hx ht; exact ⟨g1, g2, g3, g4, g5.keep (fun b hb hs => hk b hb hs.1)⟩⟩
def lenOf : Value → Nat
  | .slice _ n _ => n
  | _ => 0

set_option maxHeartbeats 8000000 in
theorem acts_any (A0 : Option Addr) (n0 c0 : Nat) (codes : List UInt8) (S : Nat → Prop) (w : World) (hv : Bytes S w (.slice A0 n0 c0) codes) (lb : Bool) :
    Calls Try.prog 37 #[.slice A0 n0 c0, .bool lb] w fun e w' => ∃ A c acs, e = .returned (.slice A acs.length c) ∧ acs.length ≤ 30 ∧ Acts (w.heap.size ≤ ·) w' (.slice A acs.length c) acs ∧ (∀ t ∈ acs, ActIn lb t) ∧ Below w.heap.size w w' := by
  have hcn := codnew_any _ codes _ w 250 (by omega) hv
  rw [show ((250 : Nat) : Int) = 250 from rfl] at hcn
  have Hcn := Lib.hid hcn
  clear hcn
  go_enter Try.func37, Try.ntmps37
  go_wp2_with fail
  refine (Hcn.out).mono ?_
  rintro e w1 ⟨g, rfl, hC1, hb1⟩
  have hg1 := hC1.1
  have hg2 := hC1.lt
  obtain ⟨base, hbase⟩ : ∃ base, base = w1.heap.size := ⟨_, rfl⟩
  have hgb : g < base := by omega
  have hb1s := hb1.size
  have hwb : w.heap.size ≤ base := by omega
  have hszb : base ≤ w1.heap.size := by omega
  clear hbase hb1s
  go_wp2_with fail
  go_loopw [6] (fun v wr => ∃ (k : Nat) (A : Option Addr) (c : Nat) (acs : List Act30), v = .slice A k c ∧ k ≤ 30 ∧ ActsOwn base wr (.slice A k c) acs ∧ (∀ t ∈ acs, ActIn lb t) ∧ Cod w.heap.size wr g ∧ Below w.heap.size w wr ∧ base ≤ wr.heap.size) (fun v _ => 30 - lenOf v)
  case atStart => exact ⟨0, none, 0, [], rfl, by omega, ActsOwn.nil_ _ _, (by simp), hC1, hb1, hszb⟩
  case round =>
    obtain ⟨k, A, c, acs, rfl, hk, hA, hin, hC, hbr, hsz⟩ := hrel
    have hlen := hA.acts.len
    have hll := Lib.hid hlen.1
    obtain ⟨_, hlc, hlc2⟩ := hlen
    go_wp2_with fail
    refine (codleft_any _ g _ hC).mono ?_
    rintro e w2 ⟨bb, rfl, hb2⟩
    have A2 := hA.ext hb2
    have hC2 := hC.ext hb2
    have b2 := Below.ext hbr hb2
    have s2 := hb2.size
    have hwg : w.heap.size ≤ g := hg1
    have hex : ∃ A' c' acs', Value.slice A k c = .slice A' acs'.length c' ∧ acs'.length ≤ 30 ∧ Acts (w.heap.size ≤ ·) w2 (.slice A' acs'.length c') acs' ∧ (∀ t ∈ acs', ActIn lb t) ∧ Below w.heap.size w w2 := ⟨A, c, acs, by rw [hll.out], by rw [hll.out]; exact hk, by rw [hll.out]; exact A2.acts.mono (fun b _ h => by omega), hin, b2⟩
    have HEX := Lib.hid hex
    clear hb2 hex
    by_cases hgo : bb = true ∧ k < 30
    · obtain ⟨rfl, hlt⟩ := hgo
      have dk : decide ((k : Int) < 30) = true := by simp; omega
      have hcx := codnext_any w.heap.size g 9 w2 hC2 (by omega) (by omega)
      rw [show ((9 : Nat) : Int) = 9 from rfl] at hcx
      have Hcx_w3 := Lib.hid hcx
      clear hcx
      go_wp2_with fail
      refine (Hcx_w3.out).mono ?_
      rintro e w3 ⟨x, rfl, hx, hC3, hg3⟩
      have hcx := codnext_any w.heap.size g 4 w3 hC3 (by omega) (by omega)
      rw [show ((4 : Nat) : Int) = 4 from rfl] at hcx
      have Hcx_w4 := Lib.hid hcx
      clear hcx
      go_wp2_with fail
      refine (Hcx_w4.out).mono ?_
      rintro e w4 ⟨y, rfl, hy, hC4, hg4⟩
      have A4 := (A2.kept hg3 hgb).kept hg4 hgb
      have b4 : Below w.heap.size w w4 := below_of_grown (below_of_grown b2 hg3 hwg) hg4 hwg
      have s3 := hg3.size
      have s4 := hg4.size
      obtain ⟨W5, hW5, b5, k5, S5, r5⟩ := boxD w w4 #[.int .i64 (x : Int), .int .i64 0, .int .i64 0, .int .i64 0, .int .i64 0, .int .i64 0, .int .i64 0, .int .i64 0, .int .i64 0, .int .i64 0, .int .i64 ((y : Int) - 1), .int .i64 0, .slice none 0 0] 77 b4
      go_upto_region 5 with (refine wpList_store_new rfl 77 _ _ rfl 77 _ #[.int .i64 (x : Int), .int .i64 0, .int .i64 0, .int .i64 0, .int .i64 0, .int .i64 0, .int .i64 0, .int .i64 0, .int .i64 0, .int .i64 0, .int .i64 ((y : Int) - 1), .int .i64 0, .slice none 0 0] rfl rfl (by kernel_rfl) rfl (by simp [Value.oneCell']) ?_)
      rw [← hW5]
      clear hW5
      obtain ⟨bt, hbt⟩ : ∃ bt, bt = w4.heap.size := ⟨_, rfl⟩
      rw [← hbt] at r5 S5 ⊢
      have hbt1 : w4.heap.size ≤ bt := by omega
      have hbt2 : bt < W5.heap.size := by have := S5.out; omega
      have hgt : g < bt := by have := hC4.lt; omega
      have hC5 := hC4.ext k5
      have q0 : W5.cell? ⟨bt, 0, none⟩ = some (.int .i64 (x : Int)) := row_cell r5.out 0 _ rfl
      clear hbt hg3 hg4 hC hC2 hC3 hC4 A2 b2 hbr hA HEX
      by_cases hx5 : x < 5
      · skip
        have dx : decide ((x : Int) < 5) = true := by simp; omega
        have dx8 : ((x : Int) == 8) = false := by simp; omega
        have hcx := codnext_any w.heap.size g 2 W5 hC5 (by omega) (by omega)
        rw [show ((2 : Nat) : Int) = 2 from rfl] at hcx
        have Hcx_w6 := Lib.hid hcx
        clear hcx
        go_wp2_with fail
        refine (Hcx_w6.out).mono ?_
        rintro e w6 ⟨z1, rfl, hz1, hC6, hg6⟩
        have hcx := codnext_any w.heap.size g 5 w6 hC6 (by omega) (by omega)
        rw [show ((5 : Nat) : Int) = 5 from rfl] at hcx
        have Hcx_w7 := Lib.hid hcx
        clear hcx
        go_wp2_with fail
        refine (Hcx_w7.out).mono ?_
        rintro e w7 ⟨z2, rfl, hz2, hC7, hg7⟩
        have hce := codevent_any w.heap.size g w7 hC7
        unfold evV at hce
        have Hce := Lib.hid hce
        clear hce
        go_wp2_with fail
        refine (Hce.out).mono ?_
        rintro e w8 ⟨ev, rfl, hev, hC8, hg8⟩
        have s5 := k5.size
        have s6 := hg6.size
        have s7 := hg7.size
        have s8 := hg8.size
        have R8 := Lib.hid ((hg8.block bt (by omega) (by simp; omega)).trans ((hg7.block bt (by omega) (by simp; omega)).trans ((hg6.block bt (by omega) (by simp; omega)).trans r5.out)))
        have b8 : Below w.heap.size w w8 := below_of_grown (below_of_grown (below_of_grown b5 hg6 hwg) hg7 hwg) hg8 hwg
        obtain ⟨W9, hW9⟩ : ∃ W9, W9 = w8.setCells bt 1 (#[Value.int .i64 (z1 : Int), Value.int .i64 (1 + (z2 : Int)), Value.int .i64 ev.k0, Value.int .i64 ev.k1, Value.int .i64 ev.k2, Value.int .i64 ev.k3, Value.int .i64 ev.k4, Value.int .i64 ev.k5, Value.int .i64 ev.k6] : Array Value).toList := ⟨_, rfl⟩
        have g9 : w8.grownBy W9 (some bt) := by rw [hW9]; exact grown_setCells _ _ _ (grown_refl _ _)
        have R9 := Lib.hid (show W9.heap[bt]? = some (.cells #[.int .i64 (x : Int), Value.int .i64 (z1 : Int), Value.int .i64 (1 + (z2 : Int)), Value.int .i64 ev.k0, Value.int .i64 ev.k1, Value.int .i64 ev.k2, Value.int .i64 ev.k3, Value.int .i64 ev.k4, Value.int .i64 ev.k5, Value.int .i64 ev.k6, .int .i64 ((y : Int) - 1), .int .i64 0, .slice none 0 0] 77 (0, 0)) by rw [hW9]; exact heap_setCells9 _ _ _ _ _ _ _ _ _ R8.out)
        have s9 := g9.size
        have q9 : W9.cell? ⟨bt, 0, none⟩ = some (.int .i64 (x : Int)) := row_cell R9.out 0 _ rfl
        have A9 : ActsOwn base W9 (.slice A k c) acs := A4.keepR (fun b hb hbb => (g9.block b (by omega) (by simp; omega)).trans ((hg8.block b (by omega) (by simp; omega)).trans ((hg7.block b (by omega) (by simp; omega)).trans ((hg6.block b (by omega) (by simp; omega)).trans (k5.block b hb)))))
        have b9 : Below w.heap.size w W9 := Below.grow b8 g9 (by omega)
        have hC9 := hC8.grown g9 (fun q hq => by cases hq; omega)
        clear q0 hg6 hg7 hg8 hC6 hC7 hC8 g9 r5
        go_upto_region 7 with (refine wpList_store_mid rfl 38 _ _ rfl bt 1 #[Value.int .i64 (z1 : Int), Value.int .i64 (1 + (z2 : Int)), Value.int .i64 ev.k0, Value.int .i64 ev.k1, Value.int .i64 ev.k2, Value.int .i64 ev.k3, Value.int .i64 ev.k4, Value.int .i64 ev.k5, Value.int .i64 ev.k6] rfl rfl (there_row R8.out 1 9 (by simp)) (by kernel_rfl) (by simp [Value.oneCell']) ?_; rw [← hW9])
        clear hW9 R8
        have hdin : DtIn ⟨(z1 : Int), 1 + (z2 : Int), ev⟩ := by
          intro z hz
          rcases List.mem_append.1 hz with h | h
          · simp at h
            rcases h with h | h <;> subst h <;> exact ⟨by omega, by omega⟩
          · exact hev z h
        have ha : Below W9.heap.size W9 (W9.alloc (.cells #[.int .i64 (x : Int), .int .i64 (z1 : Int), .int .i64 (1 + (z2 : Int)), .int .i64 ev.k0, .int .i64 ev.k1, .int .i64 ev.k2, .int .i64 ev.k3, .int .i64 ev.k4, .int .i64 ev.k5, .int .i64 ev.k6, .int .i64 ((y : Int) - 1), .int .i64 0, .slice none 0 0] 77)) := (Below.refl _ _).alloc (Nat.le_refl _) _
        obtain ⟨xs, ho, hxl, hxs⟩ := (A9).ext ha
        have hlx := Lib.hid ho.len.1
        have hszW : base ≤ W9.heap.size := by omega
        have hone : Recs encAc (fun _ => True) (W9.alloc (.cells #[.int .i64 (x : Int), .int .i64 (z1 : Int), .int .i64 (1 + (z2 : Int)), .int .i64 ev.k0, .int .i64 ev.k1, .int .i64 ev.k2, .int .i64 ev.k3, .int .i64 ev.k4, .int .i64 ev.k5, .int .i64 ev.k6, .int .i64 ((y : Int) - 1), .int .i64 0, .slice none 0 0] 77)) (.slice (some ⟨W9.heap.size, 0, none⟩) 1 1) [⟨(x : Int), ⟨(z1 : Int), (1 + (z2 : Int)), ev⟩, (y : Int) - 1, 0, none, 0, 0⟩] := ⟨_, 1, rfl, by simp, by simp [maxLen], Cs.lit _ _ _ _ _ trivial rfl⟩
        have hLa := (Recs.nil_ (enc := encZ) (fun b => base ≤ b ∧ (Value.slice A k c).ownBlock ≠ some b) W9).ext ha
        have hCa := (hC9).ext ha
        have hba := Below.ext b9 ha
        have hasz := ha.size
        go_wp2_with (first | (refine wpList_load_row rfl 77 _ rfl _ rfl 77 _ (0,0) _ R9.out Try.underlying77 rfl (by kernel_rfl) ?_) | (refine wpList_appR (o := ⟨some 58, _, _, _, _, _⟩) encAc_len encAc_one (.agg #[.int .i64 0, .int .i64 0, .int .i64 0, .int .i64 0, .int .i64 0, .int .i64 0, .int .i64 0, .int .i64 0, .int .i64 0, .int .i64 0, .int .i64 0, .int .i64 0, .slice none 0 0]) 120 _ _ 72 77 base xs [⟨(x : Int), ⟨(z1 : Int), (1 + (z2 : Int)), ev⟩, (y : Int) - 1, 0, none, 0, 0⟩] (some ⟨W9.heap.size, 0, none⟩) 1 1 (.slice A k c) (k + 1) rfl rfl Try.underlying72 infoAc rfl (by omega) rfl rfl ho hone (by rw [hlx.out]) (by have := hlx.out; omega) (by have := hlx.out; omega) (by omega) ?_; intro Az cz wz hownz hgrz hatz hcz1 hcz2))
        have hblk : ∀ o, (Value.slice A k c).ownBlock = some o → base ≤ o := fun o e => (World.ownsRow.lt ho o e).1
        have hzz := hgrz.size
        refine ⟨⟨k + 1, Az, cz, acs ++ [⟨x, ⟨(z1 : Int), (1 + (z2 : Int)), ev⟩, (y : Int) - 1, 0, []⟩], rfl, by omega, ActsOwn.push ⟨hxl, hxs⟩ _ ⟨x, ⟨(z1 : Int), (1 + (z2 : Int)), ev⟩, (y : Int) - 1, 0, []⟩ ⟨rfl, rfl, rfl, rfl, hLa⟩ hownz hgrz hatz, ?_, hCa.grown hgrz (fun q hq => by have := hblk q hq; omega), OwnR.grow ho hgrz hba (by omega) (by omega), by omega⟩, by simp [lenOf]; omega⟩
        intro y' hy'
        rcases List.mem_append.1 hy' with h | h
        · exact hin y' h
        · rw [List.mem_singleton] at h
          subst h
          exact ⟨hx, hdin, by show (-1 : Int) ≤ (y : Int) - 1; omega, by show (y : Int) - 1 ≤ 3; omega, by show (-10 : Int) ≤ 0; omega, by show 0 ≤ (300 : Int); omega, by simp, fun _ => rfl⟩
      · by_cases hx8 : x = 8
        · skip
          have dx : decide ((x : Int) < 5) = false := by simp; omega
          have dx8 : ((x : Int) == 8) = true := by simp; omega
          clear hx8
          have hcx := codnext_any w.heap.size g 100 W5 hC5 (by omega) (by omega)
          rw [show ((100 : Nat) : Int) = 100 from rfl] at hcx
          have Hcx_w6 := Lib.hid hcx
          clear hcx
          go_wp2_with fail
          refine (Hcx_w6.out).mono ?_
          rintro e w6 ⟨z, rfl, hz, hC6, hg6⟩
          have s5 := k5.size
          have s6 := hg6.size
          have R6 := Lib.hid ((hg6.block bt (by omega) (by simp; omega)).trans r5.out)
          have b6 : Below w.heap.size w w6 := below_of_grown b5 hg6 hwg
          have q11 : w6.cell? ⟨bt, 11, none⟩ = some (.int .i64 0) := row_cell R6.out 11 _ rfl
          have f11 : w6.frozen? ⟨bt, 11, none⟩ = false := frozen_of_row _ _ _ _ _ R6.out
          obtain ⟨W7, hW7⟩ : ∃ W7, W7 = w6.setCell ⟨bt, 11, none⟩ (.int .i64 ((z : Int) * 3 - 10)) := ⟨_, rfl⟩
          have g7 : w6.grownBy W7 (some bt) := by rw [hW7]; exact grown_set (grown_refl _ _)
          have R7 := Lib.hid (show W7.heap[bt]? = some (.cells #[.int .i64 (x : Int), .int .i64 0, .int .i64 0, .int .i64 0, .int .i64 0, .int .i64 0, .int .i64 0, .int .i64 0, .int .i64 0, .int .i64 0, .int .i64 ((y : Int) - 1), .int .i64 ((z : Int) * 3 - 10), .slice none 0 0] 77 (0, 0)) by rw [hW7]; exact heap_setCell_same _ _ _ _ _ _ R6.out)
          have s7 := g7.size
          have A7 : ActsOwn base W7 (.slice A k c) acs := A4.keepR (fun b hb hbb => (g7.block b (by omega) (by simp; omega)).trans ((hg6.block b (by omega) (by simp; omega)).trans (k5.block b hb)))
          have hk47 : ∀ b, b < w4.heap.size → base ≤ b → W7.heap[b]? = w4.heap[b]? := fun b hb hbb => (g7.block b (by omega) (by simp; omega)).trans ((hg6.block b (by omega) (by simp; omega)).trans (k5.block b hb))
          have b7 : Below w.heap.size w W7 := Below.grow b6 g7 (by omega)
          have hC7 := hC6.grown g7 (fun q hq => by cases hq; omega)
          clear q0 hg6 hC6 g7 r5
          go_upto_region 9 with fail
          rw [← hW7]
          clear hW7 q11 f11
          cases lb with
          | false =>
            have ha : Below W7.heap.size W7 (W7.alloc (.cells #[.int .i64 (x : Int), .int .i64 0, .int .i64 0, .int .i64 0, .int .i64 0, .int .i64 0, .int .i64 0, .int .i64 0, .int .i64 0, .int .i64 0, .int .i64 ((y : Int) - 1), .int .i64 ((z : Int) * 3 - 10), .slice none 0 0] 77)) := (Below.refl _ _).alloc (Nat.le_refl _) _
            obtain ⟨xs, ho, hxl, hxs⟩ := (A7).ext ha
            have hlx := Lib.hid ho.len.1
            have hszW : base ≤ W7.heap.size := by omega
            have hone : Recs encAc (fun _ => True) (W7.alloc (.cells #[.int .i64 (x : Int), .int .i64 0, .int .i64 0, .int .i64 0, .int .i64 0, .int .i64 0, .int .i64 0, .int .i64 0, .int .i64 0, .int .i64 0, .int .i64 ((y : Int) - 1), .int .i64 ((z : Int) * 3 - 10), .slice none 0 0] 77)) (.slice (some ⟨W7.heap.size, 0, none⟩) 1 1) [⟨(x : Int), ⟨0, 0, ⟨0, 0, 0, 0, 0, 0, 0⟩⟩, (y : Int) - 1, ((z : Int) * 3 - 10), none, 0, 0⟩] := ⟨_, 1, rfl, by simp, by simp [maxLen], Cs.lit _ _ _ _ _ trivial rfl⟩
            have hLa := (Recs.nil_ (enc := encZ) (fun b => base ≤ b ∧ (Value.slice A k c).ownBlock ≠ some b) W7).ext ha
            have hCa := (hC7).ext ha
            have hba := Below.ext b7 ha
            have hasz := ha.size
            go_wp2_with (first | (refine wpList_load_row rfl 77 _ rfl _ rfl 77 _ (0,0) _ R7.out Try.underlying77 rfl (by kernel_rfl) ?_) | (refine wpList_appR (o := ⟨some 58, _, _, _, _, _⟩) encAc_len encAc_one (.agg #[.int .i64 0, .int .i64 0, .int .i64 0, .int .i64 0, .int .i64 0, .int .i64 0, .int .i64 0, .int .i64 0, .int .i64 0, .int .i64 0, .int .i64 0, .int .i64 0, .slice none 0 0]) 120 _ _ 72 77 base xs [⟨(x : Int), ⟨0, 0, ⟨0, 0, 0, 0, 0, 0, 0⟩⟩, (y : Int) - 1, ((z : Int) * 3 - 10), none, 0, 0⟩] (some ⟨W7.heap.size, 0, none⟩) 1 1 (.slice A k c) (k + 1) rfl rfl Try.underlying72 infoAc rfl (by omega) rfl rfl ho hone (by rw [hlx.out]) (by have := hlx.out; omega) (by have := hlx.out; omega) (by omega) ?_; intro Az cz wz hownz hgrz hatz hcz1 hcz2))
            have hblk : ∀ o, (Value.slice A k c).ownBlock = some o → base ≤ o := fun o e => (World.ownsRow.lt ho o e).1
            have hzz := hgrz.size
            refine ⟨⟨k + 1, Az, cz, acs ++ [⟨x, ⟨0, 0, ⟨0, 0, 0, 0, 0, 0, 0⟩⟩, (y : Int) - 1, ((z : Int) * 3 - 10), []⟩], rfl, by omega, ActsOwn.push ⟨hxl, hxs⟩ _ ⟨x, ⟨0, 0, ⟨0, 0, 0, 0, 0, 0, 0⟩⟩, (y : Int) - 1, ((z : Int) * 3 - 10), []⟩ ⟨rfl, rfl, rfl, rfl, hLa⟩ hownz hgrz hatz, ?_, hCa.grown hgrz (fun q hq => by have := hblk q hq; omega), OwnR.grow ho hgrz hba (by omega) (by omega), by omega⟩, by simp [lenOf]; omega⟩
            intro y' hy'
            rcases List.mem_append.1 hy' with h | h
            · exact hin y' h
            · rw [List.mem_singleton] at h
              subst h
              exact ⟨hx, zDt_in, by show (-1 : Int) ≤ (y : Int) - 1; omega, by show (y : Int) - 1 ≤ 3; omega, by show (-10 : Int) ≤ ((z : Int) * 3 - 10); omega, by show ((z : Int) * 3 - 10) ≤ (300 : Int); omega, by simp, fun _ => rfl⟩
          | true =>
            have hcx := codnext_any w.heap.size g 3 W7 hC7 (by omega) (by omega)
            rw [show ((3 : Nat) : Int) = 3 from rfl] at hcx
            have Hcx_w8 := Lib.hid hcx
            clear hcx
            go_wp2_with fail
            refine (Hcx_w8.out).mono ?_
            rintro e w8 ⟨z3, rfl, hz3, hC8, hg8⟩
            have s8 := hg8.size
            have R8 := Lib.hid ((hg8.block bt (by omega) (by simp; omega)).trans R7.out)
            have b8 : Below w.heap.size w w8 := below_of_grown b7 hg8 hwg
            have A8 : ActsOwn base w8 (.slice A k c) acs := A7.kept hg8 hgb
            by_cases hz3 : z3 = 2
            · subst hz3
              have dz : (((2 : Nat) : Int) == 2) = true := rfl
              have hcx := codnext_any w.heap.size g 5 w8 hC8 (by omega) (by omega)
              rw [show ((5 : Nat) : Int) = 5 from rfl] at hcx
              have Hcx_w9 := Lib.hid hcx
              clear hcx
              go_wp2_with fail
              refine (Hcx_w9.out).mono ?_
              rintro e w9 ⟨z5, rfl, hz5, hC9, hg9⟩
              have s9 := hg9.size
              have R9 := Lib.hid ((hg9.block bt (by omega) (by simp; omega)).trans R8.out)
              have b9 : Below w.heap.size w w9 := below_of_grown b8 hg9 hwg
              have A9 : ActsOwn base w9 (.slice A k c) acs := A8.kept hg9 hgb
              obtain ⟨W10, hW10, b10, k10, S10, r10⟩ := boxD w w9 #[.int .i64 (z5 : Int)] 3 b9
              obtain ⟨bi, hbi⟩ : ∃ bi, bi = w9.heap.size := ⟨_, rfl⟩
              have s10 := S10.out
              have R10 := Lib.hid ((k10.block bt (by omega)).trans R9.out)
              have q12 : W10.cell? ⟨bt, 12, none⟩ = some (.slice none 0 0) := row_cell R10.out 12 _ rfl
              have f12 : W10.frozen? ⟨bt, 12, none⟩ = false := frozen_of_row _ _ _ _ _ R10.out
              have hone5 : Recs encZ (fun b => b = bi) W10 (.slice (some ⟨bi, 0, none⟩) 1 1) [(z5 : Int)] := by rw [hW10, hbi]; exact ⟨_, 1, rfl, by simp, by simp [maxLen], Cs.lit _ _ _ _ _ rfl rfl⟩
              obtain ⟨W11, hW11⟩ : ∃ W11, W11 = W10.setCell ⟨bt, 12, none⟩ (.slice (some ⟨bi, 0, none⟩) 1 1) := ⟨_, rfl⟩
              have g11 : W10.grownBy W11 (some bt) := by rw [hW11]; exact grown_set (grown_refl _ _)
              have R11 := Lib.hid (show W11.heap[bt]? = some (.cells #[.int .i64 (x : Int), .int .i64 0, .int .i64 0, .int .i64 0, .int .i64 0, .int .i64 0, .int .i64 0, .int .i64 0, .int .i64 0, .int .i64 0, .int .i64 ((y : Int) - 1), .int .i64 ((z : Int) * 3 - 10), .slice (some ⟨bi, 0, none⟩) 1 1] 77 (0, 0)) by rw [hW11]; exact heap_setCell_same _ _ _ _ _ _ R10.out)
              have s11 := g11.size
              have hown9 : ∀ o, (Value.slice A k c).ownBlock = some o → o < w9.heap.size := fun o e => by
                obtain ⟨xs, ho, _, _⟩ := A9
                exact (World.ownsRow.lt ho o e).2
              have A11 : ActsOwn base W11 (.slice A k c) acs := A4.keepR (fun b hb hbb => (g11.block b (by omega) (by simp; omega)).trans ((k10.block b (by omega)).trans ((hg9.block b (by omega) (by simp; omega)).trans ((hg8.block b (by omega) (by simp; omega)).trans (hk47 b hb hbb)))))
              have hL11 : Recs encZ (fun b => base ≤ b ∧ (Value.slice A k c).ownBlock ≠ some b) W11 (.slice (some ⟨bi, 0, none⟩) 1 1) [(z5 : Int)] := (hone5.keep (fun b hb h => g11.block b hb (by simp; omega))).mono (fun b _ h => ⟨by omega, fun e => by have := hown9 b e; omega⟩)
              have b11 : Below w.heap.size w W11 := Below.grow b10 g11 (by omega)
              have hC11 := (hC9.ext k10).grown g11 (fun q hq => by cases hq; omega)
              have hbi1 : bt < bi := by omega
              have hs11 : w4.heap.size ≤ W11.heap.size := by omega
              clear hone5 hC8 hC9 A9 hg9 g11 hg8
              rw [hW10] at q12 f12
              go_upto_region 11 with fail
              rw [← hW10, ← hbi, ← hW11]
              clear hW10 hbi s10 hW11 q12 f12
              have ha : Below W11.heap.size W11 (W11.alloc (.cells #[.int .i64 (x : Int), .int .i64 0, .int .i64 0, .int .i64 0, .int .i64 0, .int .i64 0, .int .i64 0, .int .i64 0, .int .i64 0, .int .i64 0, .int .i64 ((y : Int) - 1), .int .i64 ((z : Int) * 3 - 10), .slice (some ⟨bi, 0, none⟩) 1 1] 77)) := (Below.refl _ _).alloc (Nat.le_refl _) _
              obtain ⟨xs, ho, hxl, hxs⟩ := (A11).ext ha
              have hlx := Lib.hid ho.len.1
              have hszW : base ≤ W11.heap.size := by omega
              have hone : Recs encAc (fun _ => True) (W11.alloc (.cells #[.int .i64 (x : Int), .int .i64 0, .int .i64 0, .int .i64 0, .int .i64 0, .int .i64 0, .int .i64 0, .int .i64 0, .int .i64 0, .int .i64 0, .int .i64 ((y : Int) - 1), .int .i64 ((z : Int) * 3 - 10), .slice (some ⟨bi, 0, none⟩) 1 1] 77)) (.slice (some ⟨W11.heap.size, 0, none⟩) 1 1) [⟨(x : Int), ⟨0, 0, ⟨0, 0, 0, 0, 0, 0, 0⟩⟩, (y : Int) - 1, ((z : Int) * 3 - 10), (some ⟨bi, 0, none⟩), 1, 1⟩] := ⟨_, 1, rfl, by simp, by simp [maxLen], Cs.lit _ _ _ _ _ trivial rfl⟩
              have hLa := (hL11).ext ha
              have hCa := (hC11).ext ha
              have hba := Below.ext b11 ha
              have hasz := ha.size
              go_wp2_with (first | (refine wpList_load_row rfl 77 _ rfl _ rfl 77 _ (0,0) _ R11.out Try.underlying77 rfl (by kernel_rfl) ?_) | (refine wpList_appR (o := ⟨some 58, _, _, _, _, _⟩) encAc_len encAc_one (.agg #[.int .i64 0, .int .i64 0, .int .i64 0, .int .i64 0, .int .i64 0, .int .i64 0, .int .i64 0, .int .i64 0, .int .i64 0, .int .i64 0, .int .i64 0, .int .i64 0, .slice none 0 0]) 120 _ _ 72 77 base xs [⟨(x : Int), ⟨0, 0, ⟨0, 0, 0, 0, 0, 0, 0⟩⟩, (y : Int) - 1, ((z : Int) * 3 - 10), (some ⟨bi, 0, none⟩), 1, 1⟩] (some ⟨W11.heap.size, 0, none⟩) 1 1 (.slice A k c) (k + 1) rfl rfl Try.underlying72 infoAc rfl (by omega) rfl rfl ho hone (by rw [hlx.out]) (by have := hlx.out; omega) (by have := hlx.out; omega) (by omega) ?_; intro Az cz wz hownz hgrz hatz hcz1 hcz2))
              have hblk : ∀ o, (Value.slice A k c).ownBlock = some o → base ≤ o := fun o e => (World.ownsRow.lt ho o e).1
              have hzz := hgrz.size
              refine ⟨⟨k + 1, Az, cz, acs ++ [⟨x, ⟨0, 0, ⟨0, 0, 0, 0, 0, 0, 0⟩⟩, (y : Int) - 1, ((z : Int) * 3 - 10), [(z5 : Int)]⟩], rfl, by omega, ActsOwn.push ⟨hxl, hxs⟩ _ ⟨x, ⟨0, 0, ⟨0, 0, 0, 0, 0, 0, 0⟩⟩, (y : Int) - 1, ((z : Int) * 3 - 10), [(z5 : Int)]⟩ ⟨rfl, rfl, rfl, rfl, hLa⟩ hownz hgrz hatz, ?_, hCa.grown hgrz (fun q hq => by have := hblk q hq; omega), OwnR.grow ho hgrz hba (by omega) (by omega), by omega⟩, by simp [lenOf]; omega⟩
              intro y' hy'
              rcases List.mem_append.1 hy' with h | h
              · exact hin y' h
              · rw [List.mem_singleton] at h
                subst h
                exact ⟨hx, zDt_in, by show (-1 : Int) ≤ (y : Int) - 1; omega, by show (y : Int) - 1 ≤ 3; omega, by show (-10 : Int) ≤ ((z : Int) * 3 - 10); omega, by show ((z : Int) * 3 - 10) ≤ (300 : Int); omega, by simp, fun h => by cases h⟩
            · have dz : ((z3 : Int) == 2) = false := by simp; omega
              have ha : Below w8.heap.size w8 (w8.alloc (.cells #[.int .i64 (x : Int), .int .i64 0, .int .i64 0, .int .i64 0, .int .i64 0, .int .i64 0, .int .i64 0, .int .i64 0, .int .i64 0, .int .i64 0, .int .i64 ((y : Int) - 1), .int .i64 ((z : Int) * 3 - 10), .slice none 0 0] 77)) := (Below.refl _ _).alloc (Nat.le_refl _) _
              obtain ⟨xs, ho, hxl, hxs⟩ := (A8).ext ha
              have hlx := Lib.hid ho.len.1
              have hszW : base ≤ w8.heap.size := by omega
              have hone : Recs encAc (fun _ => True) (w8.alloc (.cells #[.int .i64 (x : Int), .int .i64 0, .int .i64 0, .int .i64 0, .int .i64 0, .int .i64 0, .int .i64 0, .int .i64 0, .int .i64 0, .int .i64 0, .int .i64 ((y : Int) - 1), .int .i64 ((z : Int) * 3 - 10), .slice none 0 0] 77)) (.slice (some ⟨w8.heap.size, 0, none⟩) 1 1) [⟨(x : Int), ⟨0, 0, ⟨0, 0, 0, 0, 0, 0, 0⟩⟩, (y : Int) - 1, ((z : Int) * 3 - 10), none, 0, 0⟩] := ⟨_, 1, rfl, by simp, by simp [maxLen], Cs.lit _ _ _ _ _ trivial rfl⟩
              have hLa := (Recs.nil_ (enc := encZ) (fun b => base ≤ b ∧ (Value.slice A k c).ownBlock ≠ some b) w8).ext ha
              have hCa := (hC8).ext ha
              have hba := Below.ext b8 ha
              have hasz := ha.size
              go_wp2_with (first | (refine wpList_load_row rfl 77 _ rfl _ rfl 77 _ (0,0) _ R8.out Try.underlying77 rfl (by kernel_rfl) ?_) | (refine wpList_appR (o := ⟨some 58, _, _, _, _, _⟩) encAc_len encAc_one (.agg #[.int .i64 0, .int .i64 0, .int .i64 0, .int .i64 0, .int .i64 0, .int .i64 0, .int .i64 0, .int .i64 0, .int .i64 0, .int .i64 0, .int .i64 0, .int .i64 0, .slice none 0 0]) 120 _ _ 72 77 base xs [⟨(x : Int), ⟨0, 0, ⟨0, 0, 0, 0, 0, 0, 0⟩⟩, (y : Int) - 1, ((z : Int) * 3 - 10), none, 0, 0⟩] (some ⟨w8.heap.size, 0, none⟩) 1 1 (.slice A k c) (k + 1) rfl rfl Try.underlying72 infoAc rfl (by omega) rfl rfl ho hone (by rw [hlx.out]) (by have := hlx.out; omega) (by have := hlx.out; omega) (by omega) ?_; intro Az cz wz hownz hgrz hatz hcz1 hcz2))
              have hblk : ∀ o, (Value.slice A k c).ownBlock = some o → base ≤ o := fun o e => (World.ownsRow.lt ho o e).1
              have hzz := hgrz.size
              refine ⟨⟨k + 1, Az, cz, acs ++ [⟨x, ⟨0, 0, ⟨0, 0, 0, 0, 0, 0, 0⟩⟩, (y : Int) - 1, ((z : Int) * 3 - 10), []⟩], rfl, by omega, ActsOwn.push ⟨hxl, hxs⟩ _ ⟨x, ⟨0, 0, ⟨0, 0, 0, 0, 0, 0, 0⟩⟩, (y : Int) - 1, ((z : Int) * 3 - 10), []⟩ ⟨rfl, rfl, rfl, rfl, hLa⟩ hownz hgrz hatz, ?_, hCa.grown hgrz (fun q hq => by have := hblk q hq; omega), OwnR.grow ho hgrz hba (by omega) (by omega), by omega⟩, by simp [lenOf]; omega⟩
              intro y' hy'
              rcases List.mem_append.1 hy' with h | h
              · exact hin y' h
              · rw [List.mem_singleton] at h
                subst h
                exact ⟨hx, zDt_in, by show (-1 : Int) ≤ (y : Int) - 1; omega, by show (y : Int) - 1 ≤ 3; omega, by show (-10 : Int) ≤ ((z : Int) * 3 - 10); omega, by show ((z : Int) * 3 - 10) ≤ (300 : Int); omega, by simp, fun _ => rfl⟩
        · skip
          have dx : decide ((x : Int) < 5) = false := by simp; omega
          have dx8 : ((x : Int) == 8) = false := by simp; omega
          have s5 := k5.size
          have ha : Below W5.heap.size W5 (W5.alloc (.cells #[.int .i64 (x : Int), .int .i64 0, .int .i64 0, .int .i64 0, .int .i64 0, .int .i64 0, .int .i64 0, .int .i64 0, .int .i64 0, .int .i64 0, .int .i64 ((y : Int) - 1), .int .i64 0, .slice none 0 0] 77)) := (Below.refl _ _).alloc (Nat.le_refl _) _
          obtain ⟨xs, ho, hxl, hxs⟩ := (A4.ext k5).ext ha
          have hlx := Lib.hid ho.len.1
          have hszW : base ≤ W5.heap.size := by omega
          have hone : Recs encAc (fun _ => True) (W5.alloc (.cells #[.int .i64 (x : Int), .int .i64 0, .int .i64 0, .int .i64 0, .int .i64 0, .int .i64 0, .int .i64 0, .int .i64 0, .int .i64 0, .int .i64 0, .int .i64 ((y : Int) - 1), .int .i64 0, .slice none 0 0] 77)) (.slice (some ⟨W5.heap.size, 0, none⟩) 1 1) [⟨(x : Int), ⟨0, 0, ⟨0, 0, 0, 0, 0, 0, 0⟩⟩, (y : Int) - 1, 0, none, 0, 0⟩] := ⟨_, 1, rfl, by simp, by simp [maxLen], Cs.lit _ _ _ _ _ trivial rfl⟩
          have hLa := (Recs.nil_ (enc := encZ) (fun b => base ≤ b ∧ (Value.slice A k c).ownBlock ≠ some b) W5).ext ha
          have hCa := (hC5).ext ha
          have hba := Below.ext b5 ha
          have hasz := ha.size
          go_wp2_with (first | (refine wpList_load_row rfl 77 _ rfl _ rfl 77 _ (0,0) _ r5.out Try.underlying77 rfl (by kernel_rfl) ?_) | (refine wpList_appR (o := ⟨some 58, _, _, _, _, _⟩) encAc_len encAc_one (.agg #[.int .i64 0, .int .i64 0, .int .i64 0, .int .i64 0, .int .i64 0, .int .i64 0, .int .i64 0, .int .i64 0, .int .i64 0, .int .i64 0, .int .i64 0, .int .i64 0, .slice none 0 0]) 120 _ _ 72 77 base xs [⟨(x : Int), ⟨0, 0, ⟨0, 0, 0, 0, 0, 0, 0⟩⟩, (y : Int) - 1, 0, none, 0, 0⟩] (some ⟨W5.heap.size, 0, none⟩) 1 1 (.slice A k c) (k + 1) rfl rfl Try.underlying72 infoAc rfl (by omega) rfl rfl ho hone (by rw [hlx.out]) (by have := hlx.out; omega) (by have := hlx.out; omega) (by omega) ?_; intro Az cz wz hownz hgrz hatz hcz1 hcz2))
          have hblk : ∀ o, (Value.slice A k c).ownBlock = some o → base ≤ o := fun o e => (World.ownsRow.lt ho o e).1
          have hzz := hgrz.size
          refine ⟨⟨k + 1, Az, cz, acs ++ [⟨x, ⟨0, 0, ⟨0, 0, 0, 0, 0, 0, 0⟩⟩, (y : Int) - 1, 0, []⟩], rfl, by omega, ActsOwn.push ⟨hxl, hxs⟩ _ ⟨x, ⟨0, 0, ⟨0, 0, 0, 0, 0, 0, 0⟩⟩, (y : Int) - 1, 0, []⟩ ⟨rfl, rfl, rfl, rfl, hLa⟩ hownz hgrz hatz, ?_, hCa.grown hgrz (fun q hq => by have := hblk q hq; omega), OwnR.grow ho hgrz hba (by omega) (by omega), by omega⟩, by simp [lenOf]; omega⟩
          intro y' hy'
          rcases List.mem_append.1 hy' with h | h
          · exact hin y' h
          · rw [List.mem_singleton] at h
            subst h
            exact ⟨hx, zDt_in, by show (-1 : Int) ≤ (y : Int) - 1; omega, by show (y : Int) - 1 ≤ 3; omega, by show (-10 : Int) ≤ 0; omega, by show 0 ≤ (300 : Int); omega, by simp, fun _ => rfl⟩
    · cases bb with
      | false =>
        go_wp2
        go_ret
        obtain ⟨A', c', acs', h1, h2⟩ := HEX.out
        exact ⟨A', c', acs', congrArg Ending.returned h1, h2⟩
      | true =>
        have dk : decide ((k : Int) < 30) = false := by simp at hgo ⊢; omega
        go_wp2
        go_ret
        obtain ⟨A', c', acs', h1, h2⟩ := HEX.out
        exact ⟨A', c', acs', congrArg Ending.returned h1, h2⟩
end Go.Proofs.Ytjcfnpmgklliiaa
