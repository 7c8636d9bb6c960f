/-
  Joined from texts of ours: XRefDisk, XRefCrash, XSameDisk, XRefDiskB, XRefDiskC.
-/
import Derived.Test.YtjcfnpmgklliiaaDiskA
import Derived.Test.YtjcfnpmgklliiaaKit
import Derived.Test.YtjcfnpmgklliiaaCodecC
namespace Go.Proofs.Ytjcfnpmgklliiaa
open Go.RowKit
set_option maxRecDepth 100000
set_option linter.unusedVariables false

set_option maxHeartbeats 400000 in
theorem in_any (A : Option Addr) (n c : Nat) (x : Int) (zs : List Int) (S : Nat → Prop) (w : World) (h : Recs encZ S w (.slice A n c) zs) (hn : n ≤ 100000000) :
    Calls Try.prog 73 #[.slice A n c, .int .i64 x] w fun e w' => e = .returned (.bool (decide (x ∈ zs))) ∧ w' = w := by
  have hl := h.len
  have HL := Lib.hid hl.1
  go_enter Try.func73, Try.ntmps73
  go_wp2
  go_loop [5] (fun v => ∃ k : Nat, v = .int .i64 k ∧ k ≤ n ∧ x ∉ zs.take k) (fun v => n - (intOf v).toNat)
  case atStart => exact ⟨0, rfl, by omega, by simp⟩
  case round =>
    obtain ⟨k, rfl, hk, hnot⟩ := hrel
    have HN := Lib.hid hnot
    clear hnot
    by_cases hlt : k < n
    · obtain ⟨b, off, z, rfl, _, hb, hz, hc⟩ := h.at_ encZ_len (j := k) (by have := HL.out; omega) (by omega)
      have qz := hc 0 _ rfl
      rw [Nat.mul_one, Nat.add_zero] at qz
      have htk : zs.take (k + 1) = zs.take k ++ [z] := by rw [List.take_add_one, hz]; rfl
      have hmem : z ∈ zs := List.mem_of_getElem? hz
      have HTK := Lib.hid htk
      have HM := Lib.hid hmem
      clear hc hz htk hmem
      by_cases hzx : z = x
      · have dz : (z == x) = true := by simpa using hzx
        have hd : decide (x ∈ zs) = true := by rw [← hzx]; simpa using HM.out
        go_wp2
        go_ret
        exact ⟨rfl, rfl⟩
      · have dz : (z == x) = false := by simpa using hzx
        have hn2 : x ∉ zs.take (k + 1) := by rw [HTK.out, List.mem_append, List.mem_singleton]; exact fun q => q.elim HN.out (fun e => hzx e.symm)
        have HN2 := Lib.hid hn2
        clear hn2
        go_wp2
        go_round
        case rel => exact ⟨k + 1, by go_num, by omega, HN2.out⟩
        case measure => simp [intOf]; omega
    · obtain rfl : k = n := by omega
      have hd : decide (x ∈ zs) = false := by
        have := HN.out
        rw [List.take_of_length_le (by have := HL.out; omega)] at this
        simpa using this
      go_wp2
      go_ret
      exact ⟨rfl, rfl⟩

/-- the first i bytes with lost sectors as zero -/
def mixL (q : List UInt8) (L : List Int) (i : Nat) : List UInt8 := q.mapIdx (fun j c => if j < i ∧ ((j / 16 : Nat) : Int) ∈ L then 0 else c)
theorem mixL_get (q : List UInt8) (L : List Int) (i j : Nat) : (mixL q L i)[j]? = q[j]?.map (fun c => if j < i ∧ ((j / 16 : Nat) : Int) ∈ L then 0 else c) := by simp [mixL]
theorem mixL_zero (q : List UInt8) (L : List Int) : mixL q L 0 = q := by
  apply List.ext_getElem?
  intro j
  rw [mixL_get]
  simp
theorem mixL_all (q : List UInt8) (L : List Int) : mixL q L q.length = maskL q L := by
  apply List.ext_getElem?
  intro j
  rw [mixL_get, maskL_get]
  by_cases h : j < q.length
  · simp [h]
  · rw [List.getElem?_eq_none (by omega)]; rfl
theorem mixL_yes (q : List UInt8) (L : List Int) (i : Nat) (h : ((i / 16 : Nat) : Int) ∈ L) : (mixL q L i).set i 0 = mixL q L (i + 1) := by
  apply List.ext_getElem?
  intro j
  rw [List.getElem?_set, mixL_get, mixL_get]
  by_cases hij : i = j
  · subst hij
    have hl : (mixL q L i).length = q.length := by simp [mixL]
    rw [if_pos rfl, hl]
    by_cases hlt : i < q.length
    · rw [if_pos hlt, List.getElem?_eq_getElem hlt, Option.map_some, if_pos ⟨by omega, h⟩]
    · rw [if_neg hlt, List.getElem?_eq_none (by omega)]; rfl
  · rw [if_neg hij]
    have : (j < i) ↔ (j < i + 1) := by omega
    simp only [this]
theorem mixL_no (q : List UInt8) (L : List Int) (i : Nat) (h : ¬ ((i / 16 : Nat) : Int) ∈ L) : mixL q L i = mixL q L (i + 1) := by
  apply List.ext_getElem?
  intro j
  rw [mixL_get, mixL_get]
  by_cases hij : i = j
  · subst hij
    simp only [h, and_false, if_false]
  · have : (j < i) ↔ (j < i + 1) := by omega
    simp only [this]

set_option maxHeartbeats 1000000 in
theorem torn_any (A : Option Addr) (n c : Nat) (p : List UInt8) (S : Nat → Prop) (keep : Int) (At : Option Addr) (nt ct : Nat) (lost : List Int) (St : Nat → Prop) (w : World) (hp : By S w (.slice A n c) p) (hT : Recs encZ St w (.slice At nt ct) lost) (hn : n ≤ 100000000) (hnt : nt ≤ 100000000) :
    Calls Try.prog 32 #[.slice A n c, .agg #[.int .i64 keep, .slice At nt ct]] w fun e w' => ∃ A' c', e = .returned (.slice A' (keepN p keep) c') ∧ OwnR encB 1 w' w.heap.size 5 (.slice A' (keepN p keep) c') (tornL p keep lost) ∧ Below w.heap.size w w' := by
  have hl := hp.len
  have hkn := keepN_le p keep
  have hN : min (max keep 0) (n : Int) = (keepN p keep : Int) := by rw [← hl.1]; unfold keepN; omega
  have hmax := fun w => run_max2 (P := Try.prog) w #[3, 3] 3 keep 0
  have hmin := fun w => run_min2 (P := Try.prog) w #[3, 3] 3 (max keep 0) (n : Int)
  rw [hN] at hmin
  have hq : mixL (p.take (keepN p keep)) lost (keepN p keep) = tornL p keep lost := by
    have := mixL_all (p.take (keepN p keep)) lost
    rw [List.length_take, Nat.min_eq_left hkn] at this
    rw [this]; rfl
  have HQ := Lib.hid hq
  have hNn : keepN p keep ≤ n := by omega
  have hpt := hp.take_ encB_len (j := keepN p keep) hNn
  have HL := Lib.hid hl.1
  have hl2 := hl.2
  clear hN hq hkn hl
  generalize keepN p keep = N at *
  have hqlen : (p.take N).length = N := by rw [List.length_take, HL.out]; omega
  have HQL := Lib.hid hqlen
  generalize p.take N = q at *
  have ha : Below w.heap.size w (w.alloc (.cells #[.int .i64 keep, .slice At nt ct] 57)) := (Below.refl _ _).alloc (Nat.le_refl _) _
  obtain ⟨W, hW⟩ : ∃ W, W = w.alloc (.cells #[.int .i64 keep, .slice At nt ct] 57) := ⟨_, rfl⟩
  have hrow : W.heap[w.heap.size]? = some (.cells #[.int .i64 keep, .slice At nt ct] 57 (0, 0)) := by rw [hW]; exact heap_alloc_new _ _
  have hsW : W.heap.size = w.heap.size + 1 := by rw [hW]; simp
  rw [← hW] at ha
  have HR := Lib.hid hrow
  clear hqlen hrow
  go_enter Try.func32, Try.ntmps32
  go_wp2_with (refine wpList_appR (o := ⟨some 17, _, _, _, _, _⟩) encB_len encB_one (.int .u8 0) 1 _ _ 22 5 (w.heap.size + 1) [] q A N c (.slice none 0 0) N rfl rfl Try.underlying22 infoB rfl (by omega) rfl rfl (OwnR.nil_ _ _ _) (D := S) (by rw [← hW]; exact hpt.ext ha) (by simp) (by simp; omega) (by simp; omega) (by simp) ?_; intro A5 c5 w5 hown5 hgr5 hat5 hc51 hc52)
  rw [← hW] at hgr5
  clear hmax hmin hW
  have b5 : Below W.heap.size W w5 := ⟨hgr5.os, hgr5.tape, hgr5.output, hgr5.size, fun i hi => hgr5.block i hi (by simp [Value.ownBlock])⟩
  have hown0 : OwnR encB 1 w5 (w.heap.size + 1) 5 (.slice A5 N c5) (mixL q lost 0) := by rw [mixL_zero]; simpa using hown5
  have bw5 := Below.ext ha b5
  have hr5 := (b5.block w.heap.size (by omega)).trans HR.out
  have hT5 := (hT.mono (S' := (· < w.heap.size)) (fun b hb _ => hb)).ext bw5
  have HR5 := Lib.hid hr5
  have s5 := bw5.size
  clear hr5 hown5 hgr5 hat5 hpt
  go_loopw [7] (fun i wr => ∃ j : Nat, i = .int .i64 j ∧ j ≤ N ∧ OwnR encB 1 wr (w.heap.size + 1) 5 (.slice A5 N c5) (mixL q lost j) ∧ Below (w.heap.size + 1) w5 wr) (fun i _ => N - (intOf i).toNat)
  case atStart => exact ⟨0, rfl, by omega, hown0, Below.refl _ _⟩
  case round =>
    clear hown0
    obtain ⟨j, rfl, hj, hown, hbr⟩ := hrel
    by_cases hlt : j < N
    · have dj : decide (j < N) = true := by simpa using hlt
      have hmix : (mixL q lost j).length = N := hown.len.1
      obtain ⟨g, rfl, hg1, hg2⟩ := hown.some_ (by omega)
      obtain ⟨⟨u0, hu0⟩, hf0⟩ := hown.cellB hlt
      have hrr := (hbr.block w.heap.size (by omega)).trans HR5.out
      have q1 : wr.cell? ⟨w.heap.size, 1, none⟩ = some (.slice At nt ct) := by rw [cell_of_row _ _ _ _ _ _ hrr]; rfl
      have hTr := hT5.keep (w' := wr) (fun b _ h => hbr.block b (by omega))
      have hx : ((j : Int) / 16) = ((j / 16 : Nat) : Int) := by omega
      have hin := in_any At nt ct ((j : Int) / 16) lost _ wr hTr hnt
      have Hin := Lib.hid hin
      clear hin hrr hmix
      by_cases hm : ((j / 16 : Nat) : Int) ∈ lost
      · have hd : decide (((j : Int) / 16) ∈ lost) = true := by rw [hx]; simpa using hm
        have hset := hown.setB j 0
        rw [mixL_yes _ _ _ hm] at hset
        have HS := Lib.hid hset
        have hbs := hbr.setCell (p := ⟨g, j, none⟩) (by show w.heap.size + 1 ≤ g; omega) (.int .u8 0)
        clear hset hx
        go_wp2_with fail
        refine Hin.out.mono ?_
        rintro e w7 ⟨rfl, rfl⟩
        rw [hd]
        go_wp2
        go_roundw
        case rel => exact ⟨j + 1, by go_num, by omega, HS.out, hbs⟩
        case measure => simp [intOf]; omega
      · have hd : decide (((j : Int) / 16) ∈ lost) = false := by rw [hx]; simpa using hm
        rw [mixL_no _ _ _ hm] at hown
        clear hx
        go_wp2_with fail
        refine Hin.out.mono ?_
        rintro e w7 ⟨rfl, rfl⟩
        rw [hd]
        go_wp2
        go_roundw
        case rel => exact ⟨j + 1, by go_num, by omega, hown, hbr⟩
        case measure => simp [intOf]; omega
    · obtain rfl : j = N := by omega
      rw [HQ.out] at hown
      go_wp2
      go_ret
      exact ⟨A5, c5, rfl, hown.weak (by omega), bw5.trans (hbr.mono (by omega))⟩
end Go.Proofs.Ytjcfnpmgklliiaa

namespace Go.Proofs.Ytjcfnpmgklliiaa
open Go.RowKit
set_option maxRecDepth 100000
set_option linter.unusedVariables false

/-- files that are appended: the row of the call's own, and the bytes elsewhere -/
def FilOwn (base : Nat) (w : World) (v : Value) (fl : List Fil) : Prop := ∃ xs, OwnR encF 2 w base 42 v xs ∧ xs.length = fl.length ∧ ∀ (i : Nat) (x : FV) (f : Fil), xs[i]? = some x → fl[i]? = some f → FOk (fun b => base ≤ b ∧ v.ownBlock ≠ some b) w x f
theorem FilOwn.nil_ (base : Nat) (w : World) : FilOwn base w (.slice none 0 0) [] := ⟨[], OwnR.nil_ _ _ _, rfl, fun i x f hx => by simp at hx⟩
theorem FilOwn.dsk {base : Nat} {w : World} {v : Value} {fl : List Fil} (h : FilOwn base w v fl) : Dsk (base ≤ ·) w v fl := by
  obtain ⟨xs, h1, h2, h3⟩ := h
  exact ⟨xs, h1.recs.mono (fun _ _ h => h.1), h2, fun i x f hx hf => (h3 i x f hx hf).mono (fun _ _ h => h.1)⟩
theorem FilOwn.len {base : Nat} {w : World} {A : Option Addr} {n c : Nat} {fl : List Fil} (h : FilOwn base w (.slice A n c) fl) : fl.length = n ∧ n ≤ c ∧ c ≤ 9223372036854775807 := h.dsk.len
theorem FilOwn.ext {base : Nat} {w w' : World} {v : Value} {fl : List Fil} (h : FilOwn base w v fl) (hb : Below w.heap.size w w') : FilOwn base w' v fl := by
  obtain ⟨xs, h1, h2, h3⟩ := h
  exact ⟨xs, h1.ext hb, h2, fun i x f hx hf => (h3 i x f hx hf).ext hb⟩
/-- a block below base may change -/
theorem FilOwn.kept {base g : Nat} {w w' : World} {v : Value} {fl : List Fil} (h : FilOwn base w v fl) (hg : w.grownBy w' (some g)) (hlt : g < base) : FilOwn base w' v fl := by
  obtain ⟨xs, h1, h2, h3⟩ := h
  refine ⟨xs, h1.kept hg ?_, h2, fun i x f hx hf => (h3 i x f hx hf).keep (fun b hb hs => hg.block b hb (fun e => by cases e; omega))⟩
  rcases Option.eq_none_or_eq_some v.ownBlock with h0 | ⟨m, h0⟩
  · exact .inl h0
  · refine .inr (fun e => ?_)
    rw [h0] at e
    cases e
    have := (World.ownsRow.lt h1 _ h0).1
    omega
theorem fok_keep {base : Nat} {w w' : World} {v v' : Value} {x : FV} {f : Fil} (h : FOk (fun b => base ≤ b ∧ v.ownBlock ≠ some b) w x f) (hg : w.grownBy w' v.ownBlock) (hat : v'.ownBlock = v.ownBlock ∨ v'.ownBlock = some w.heap.size) :
    FOk (fun b => base ≤ b ∧ v'.ownBlock ≠ some b) w' x f := by
  have h1 : FOk (fun b => base ≤ b ∧ v.ownBlock ≠ some b ∧ b < w.heap.size) w x f := h.mono (fun b hb hs => ⟨hs.1, hs.2, hb⟩)
  refine (h1.keep (fun b hb hs => hg.block b hb (fun e => hs.2.1 e.symm))).mono (fun b _ hs => ⟨hs.1, fun e => ?_⟩)
  rcases hat with h2 | h2
  · exact hs.2.1 (h2.symm.trans e)
  · rw [h2] at e
    cases e
    exact Nat.lt_irrefl _ hs.2.2
theorem FilOwn.push {base : Nat} {w w' : World} {v v' : Value} {fl : List Fil} {xs : List FV} (hx : xs.length = fl.length ∧ ∀ (i : Nat) (x : FV) (f : Fil), xs[i]? = some x → fl[i]? = some f → FOk (fun b => base ≤ b ∧ v.ownBlock ≠ some b) w x f)
    (x : FV) (f : Fil) (h2 : FOk (fun b => base ≤ b ∧ v.ownBlock ≠ some b) w x f) (hown : OwnR encF 2 w' base 42 v' (xs ++ [x])) (hg : w.grownBy w' v.ownBlock) (hat : v'.ownBlock = v.ownBlock ∨ v'.ownBlock = some w.heap.size) : FilOwn base w' v' (fl ++ [f]) := by
  refine ⟨_, hown, by simp [hx.1], fun i x' f' hx' hf' => ?_⟩
  rcases Nat.lt_or_ge i xs.length with hi | hi
  · rw [List.getElem?_append_left hi] at hx'
    rw [List.getElem?_append_left (by omega)] at hf'
    exact fok_keep (hx.2 i x' f' hx' hf') hg hat
  · rw [List.getElem?_append_right hi] at hx'
    rw [List.getElem?_append_right (by omega)] at hf'
    have hi' : i - xs.length = 0 := by
      rcases Nat.eq_zero_or_pos (i - xs.length) with h | h
      · exact h
      · rw [List.getElem?_eq_none (by simp; omega)] at hx'
        cases hx'
    rw [hi'] at hx'
    rw [← hx.1, hi'] at hf'
    cases hx'
    cases hf'
    exact fok_keep h2 hg hat
theorem crash_take (fs : List Fil) (ts : List Tear) (j : Nat) (f : Fil) (h : fs[j]? = some f) : (crashL fs ts).take (j + 1) = (crashL fs ts).take j ++ [crashF ts j f] := by
  rw [List.take_add_one]
  congr 1
  unfold crashL
  rw [List.getElem?_mapIdx, h]
  rfl

set_option maxHeartbeats 4000000 in
theorem refcrash_any (A : Option Addr) (n c : Nat) (fs : List Fil) (S : Nat → Prop) (w : World) (hD : Dsk S w (.slice A n c) fs) (hn : n ≤ 1000) (At : Option Addr) (nt ct : Nat) (ts : List Tear) (St : Nat → Prop) (hT : Trs St w (.slice At nt ct) ts) (hlen : ∀ f ∈ fs, f.s.length + f.p.length ≤ 3000000) (hlt2 : ∀ t ∈ ts, t.lost.length ≤ 3000000) :
    Calls Try.prog 102 #[.agg #[.slice A n c], .slice At nt ct] w fun e w' => ∃ A' c', e = .returned (.agg #[.slice A' n c']) ∧ Dsk (w.heap.size ≤ ·) w' (.slice A' n c') (crashL fs ts) ∧ Below w.heap.size w w' := by
  have hD0 := hD.lo
  have hT0 := hT.mono (S' := (· < w.heap.size)) (fun _ h _ => h)
  obtain ⟨hd1, hd2, hd3⟩ := hD.len
  obtain ⟨ht1, ht2, ht3⟩ := hT.len
  have HD1 := Lib.hid hd1
  have HT1 := Lib.hid ht1
  have HLen := Lib.hid hlen
  have HLt := Lib.hid hlt2
  clear hd1 ht1 hlen hlt2
  obtain ⟨W0, hW0, hbW0, hsW0, hw0, hw1⟩ := two_boxes w (.slice A n c)
  obtain ⟨W, hW⟩ : ∃ W, W = W0.alloc (.cells #[.slice none 0 0] 45) := ⟨_, rfl⟩
  have haW : Below W0.heap.size W0 W := by rw [hW]; exact (Below.refl _ _).alloc (Nat.le_refl _) _
  have hw2 : W.heap[W0.heap.size]? = some (.cells #[.slice none 0 0] 45 (0, 0)) := by rw [hW]; exact heap_alloc_new _ _
  have r0 := (haW.block w.heap.size (by omega)).trans hw0
  have r1 := (haW.block (w.heap.size + 1) (by omega)).trans hw1
  have bW := Below.ext hbW0 haW
  have hsW : W.heap.size = w.heap.size + 3 := by rw [hW]; simp [hsW0]
  rw [hsW0] at hw2
  have R0 := Lib.hid r0
  have R1 := Lib.hid r1
  have R2 := Lib.hid hw2
  have HsW := Lib.hid hsW
  go_enter Try.func102, Try.ntmps102
  go_wp2_with fail
  rw [show w.heap.size + 1 + 1 = w.heap.size + 2 by omega]
  rw [← hW0, ← hW]
  clear hW0 hW hbW0 hsW0 haW hw0 hw1 hw2 r0 r1 hsW
  have ag22 : ∀ w : World, (isAgg 43).run Try.prog w = .ok false w := fun w => by simp [isAgg, run_underlying Try.underlying43]
  have ag30 : ∀ w : World, (isAgg 22).run Try.prog w = .ok false w := fun w => by simp [isAgg, run_underlying Try.underlying22]
  have A22 := Lib.hid ag22
  have A30 := Lib.hid ag30
  clear ag22 ag30
  go_loopw [6] (fun v wr => ∃ (j : Nat) (A' : Option Addr) (c' : Nat), v = .int .i64 j ∧ j ≤ n ∧ wr.heap[w.heap.size + 2]? = some (.cells #[.slice A' j c'] 45 (0, 0)) ∧ FilOwn (w.heap.size + 3) wr (.slice A' j c') ((crashL fs ts).take j) ∧ Below w.heap.size w wr ∧ W.grownBy wr (some (w.heap.size + 2))) (fun v _ => n - (intOf v).toNat)
  case atStart => exact ⟨0, none, 0, rfl, by omega, R2.out, by rw [List.take_zero]; exact FilOwn.nil_ _ _, bW, grown_refl' _ _⟩
  case round =>
    obtain ⟨j, A', c', rfl, hj, ho, hF, hbr, hgr⟩ := hrel
    have HO := Lib.hid ho
    have hO : w.heap.size + 2 < wr.heap.size := (Array.getElem?_eq_some_iff.1 ho).1
    clear ho
    have q0' : wr.cell? ⟨w.heap.size, 0, none⟩ = some (.slice A n c) := by
      have := (hgr.block w.heap.size (by have := HsW.out; omega) (by simp)).trans R0.out
      rw [cell_of_row _ _ _ _ _ _ this]; rfl
    by_cases hlt : j < n
    · obtain ⟨b, off, x, f, rfl, hbl, hff, hx, c0, c1⟩ := hD0.at_ hlt
      have HF := Lib.hid hff
      have Hp := Lib.hid hx.p.len.1
      have Hsl := Lib.hid hx.s.len.1
      have hpn : x.n1 + x.n2 ≤ 3000000 := by have h1 := HLen.out f (List.mem_of_getElem? hff); have := hx.s.len.1; have := hx.p.len.1; omega
      have c0' := (hbr.cell (p := ⟨b, off + j * 2, none⟩) hbl).trans c0
      have c1' := (hbr.cell (p := ⟨b, off + j * 2 + 1, none⟩) hbl).trans c1
      have hbl' := block_lt_of_cell c0'
      have hwlt : w.heap.size < wr.heap.size := by omega
      clear hff c0 c1
      by_cases hjt : j < nt
      · have dt : decide (j < nt) = true := by simpa using hjt
        obtain ⟨bt, ot, yt, tt, rfl, hbt, htt, hky, hlo, e0, e1⟩ := hT0.at_ hjt
        have e0' := (hbr.cell (p := ⟨bt, ot + j * 2, none⟩) hbt).trans e0
        have e1' := (hbr.cell (p := ⟨bt, ot + j * 2 + 1, none⟩) hbt).trans e1
        have hbt' := block_lt_of_cell e0'
        have hto : tearOf ts j = tt := by unfold tearOf; rw [htt]; rfl
        have HT1' : (tearOf ts j).keep = yt.keep := by rw [hto, hky]
        have HT2' : (tearOf ts j).lost = tt.lost := by rw [hto]
        have hyl : yt.n ≤ 3000000 := by have h1 := HLt.out tt (List.mem_of_getElem? htt); have := hlo.len.1; omega
        have HHT1 := Lib.hid HT1'
        have HHT2 := Lib.hid HT2'
        clear htt hky hto e0 e1 HT1' HT2'
        go_wp2_with fail
        obtain ⟨W3, hW3⟩ : ∃ W3, W3 = (wr.alloc (.cells #[.int .i64 yt.keep, .slice yt.A yt.n yt.c] 57)).alloc (.cells #[.slice x.A1 x.n1 x.c1, .slice x.A2 x.n2 x.c2] 42) := ⟨_, rfl⟩
        have hbW3 : Below wr.heap.size wr W3 := by rw [hW3]; exact ((Below.refl _ _).alloc (Nat.le_refl _) _).alloc (by simp) _
        have hsW3 : W3.heap.size = wr.heap.size + 2 := by rw [hW3]; simp
        have hrT : W3.heap[wr.heap.size]? = some (.cells #[.int .i64 yt.keep, .slice yt.A yt.n yt.c] 57 (0, 0)) := by rw [hW3]; exact (((Below.refl _ _).alloc (Nat.le_refl _) _).block wr.heap.size (by simp)).trans (heap_alloc_new wr _)
        have hrF : W3.heap[wr.heap.size + 1]? = some (.cells #[.slice x.A1 x.n1 x.c1, .slice x.A2 x.n2 x.c2] 42 (0, 0)) := by
          rw [hW3]
          have := heap_alloc_new (wr.alloc (.cells #[.int .i64 yt.keep, .slice yt.A yt.n yt.c] 57)) (.cells #[.slice x.A1 x.n1 x.c1, .slice x.A2 x.n2 x.c2] 42)
          rw [World.size_alloc] at this
          exact this
        have hrO := (hbW3.block (w.heap.size + 2) hO).trans HO.out
        rw [← hW3]
        have HsW3 := Lib.hid hsW3
        have HrT := Lib.hid hrT
        have HrF := Lib.hid hrF
        have HrO := Lib.hid hrO
        clear hW3 hsW3 hrT hrF hrO q0' c0' c1'
        have bw3 := Below.ext hbr hbW3
        have hcell : ∀ (w' : World) (g o : Nat) (cs : Array Value) (e : TypeId) (v : Value), w'.heap[g]? = some (.cells cs e (0, 0)) → cs[o]? = some v → w'.cell? ⟨g, o, none⟩ = some v := fun w' g o cs e v h hv => by rw [cell_of_row _ _ _ _ _ _ h]; exact hv
        have HC := Lib.hid hcell
        clear hcell
        refine wp_region_tail (fun w' => w'.heap[w.heap.size + 2]? = some (.cells #[.slice A' j c'] 45 (0, 0)) ∧ w'.heap[wr.heap.size]? = some (.cells #[.int .i64 yt.keep, .slice yt.A yt.n yt.c] 57 (0, 0)) ∧ w'.heap[wr.heap.size + 1]? = some (.cells #[.slice x.A1 x.n1 x.c1, .slice x.A2 x.n2 x.c2] 42 (0, 0))) 13 (by kernel_rfl) (by kernel_rfl) (by kernel_rfl) (by decide) ⟨HrO.out, HrT.out, HrF.out⟩ ?_
        simp only [List.take_succ_cons, List.take_zero, List.drop_succ_cons, List.drop_zero]
        repeat (first | (refine lexL_q0 rfl ?_; go_big_quiet_step (fail); refine wpQuiet_nil ?_) | (refine lexL_skip0 rfl rfl ?_; simp only [Act.put, List.setIfInBounds_toArray, List.set_cons_succ, List.set_cons_zero]))
        refine lexL_ld (⟨w.heap.size + 2, 0, none⟩) (.slice A' j c') rfl rfl rfl (fun w' hS => run_ld1 (A22.out _) (HC.out w' _ 0 _ _ _ hS.1 rfl)) ?_
        simp only [Act.put, List.setIfInBounds_toArray, List.set_cons_succ, List.set_cons_zero]
        repeat (first | (refine lexL_q0 rfl ?_; go_big_quiet_step (fail); refine wpQuiet_nil ?_) | (refine lexL_skip0 rfl rfl ?_; simp only [Act.put, List.setIfInBounds_toArray, List.set_cons_succ, List.set_cons_zero]))
        refine lexL_ld (⟨wr.heap.size + 1, 0, none⟩) (.slice x.A1 x.n1 x.c1) rfl rfl rfl (fun w' hS => run_ld1 (A30.out _) (HC.out w' _ 0 _ _ _ hS.2.2 rfl)) ?_
        simp only [Act.put, List.setIfInBounds_toArray, List.set_cons_succ, List.set_cons_zero]
        repeat (first | (refine lexL_q0 rfl ?_; go_big_quiet_step (fail); refine wpQuiet_nil ?_) | (refine lexL_skip0 rfl rfl ?_; simp only [Act.put, List.setIfInBounds_toArray, List.set_cons_succ, List.set_cons_zero]))
        have hx3 := (hx.s.ext bw3).ext (w' := W3.drew) (Below.refl _ _).drew
        refine lexL_e rfl ?_
        refine wpList_appR encB_len encB_one (.int .u8 0) 1 _ _ 22 5 W3.heap.size [] f.s x.A1 x.n1 x.c1 (.slice none 0 0) x.n1 rfl rfl Try.underlying22 infoB rfl (by omega) rfl rfl (OwnR.nil_ _ _ _) hx3 (by simp) (by simp; omega) (by simp; omega) (Nat.le_refl _) ?_
        intro A5 c5 w5 hown5 hgr5 hat5 hc51 hc52
        have b5 : Below W3.heap.size W3 w5 := ⟨hgr5.os, hgr5.tape, hgr5.output, hgr5.size, fun i hi => hgr5.block i hi (by simp [Value.ownBlock])⟩
        rw [List.nil_append] at hown5
        have hls : ∀ b, b < W3.heap.size → ∀ w', Below W3.heap.size W3 w' → w'.heap[b]? = W3.heap[b]? := fun b hb w' h => h.block b hb
        have HLS := Lib.hid hls
        have hS5 := fun (w' : World) (h : Below W3.heap.size W3 w') => (⟨(h.block (w.heap.size + 2) (by have := HsW3.out; omega)).trans HrO.out, (h.block wr.heap.size (by have := HsW3.out; omega)).trans HrT.out, (h.block (wr.heap.size + 1) (by have := HsW3.out; omega)).trans HrF.out⟩ : w'.heap[w.heap.size + 2]? = some (.cells #[.slice A' j c'] 45 (0, 0)) ∧ w'.heap[wr.heap.size]? = some (.cells #[.int .i64 yt.keep, .slice yt.A yt.n yt.c] 57 (0, 0)) ∧ w'.heap[wr.heap.size + 1]? = some (.cells #[.slice x.A1 x.n1 x.c1, .slice x.A2 x.n2 x.c2] 42 (0, 0)))
        have HS5 := Lib.hid hS5
        clear hls hS5 hgr5 hat5
        refine lexL_go (HS5.out w5 b5) ?_
        simp only [Act.put, List.setIfInBounds_toArray, List.set_cons_succ, List.set_cons_zero]
        repeat (first | (refine lexL_q0 rfl ?_; go_big_quiet_step (fail); refine wpQuiet_nil ?_) | (refine lexL_skip0 rfl rfl ?_; simp only [Act.put, List.setIfInBounds_toArray, List.set_cons_succ, List.set_cons_zero]))
        refine lexL_ld (⟨wr.heap.size + 1, 1, none⟩) (.slice x.A2 x.n2 x.c2) rfl rfl rfl (fun w' hS => run_ld1 (A30.out _) (HC.out w' _ 1 _ _ _ hS.2.2 rfl)) ?_
        simp only [Act.put, List.setIfInBounds_toArray, List.set_cons_succ, List.set_cons_zero]
        repeat (first | (refine lexL_q0 rfl ?_; go_big_quiet_step (fail); refine wpQuiet_nil ?_) | (refine lexL_skip0 rfl rfl ?_; simp only [Act.put, List.setIfInBounds_toArray, List.set_cons_succ, List.set_cons_zero]))
        refine lexL_ld (⟨wr.heap.size, 0, none⟩) (.agg #[.int .i64 yt.keep, .slice yt.A yt.n yt.c]) rfl rfl rfl (fun w' hS => run_ld_block hS.2.1 Try.underlying57 rfl (by kernel_rfl)) ?_
        simp only [Act.put, List.setIfInBounds_toArray, List.set_cons_succ, List.set_cons_zero]
        repeat (first | (refine lexL_q0 rfl ?_; go_big_quiet_step (fail); refine wpQuiet_nil ?_) | (refine lexL_skip0 rfl rfl ?_; simp only [Act.put, List.setIfInBounds_toArray, List.set_cons_succ, List.set_cons_zero]))
        refine lexL_e rfl ?_
        go_wp2_with fail
        refine (torn_any x.A2 x.n2 x.c2 f.p _ yt.keep yt.A yt.n yt.c tt.lost _ w5 ((hx.p.ext bw3).ext b5) ((hlo.ext bw3).ext b5) (by omega) (by omega)).mono ?_
        rintro e w6 ⟨A6, c6, rfl, hown6, hb6⟩
        have b6 := Below.ext b5 hb6
        have hkp := keepN_le f.p yt.keep
        have hpl := Hp.out
        have s5 := b5.size
        go_wp2_with fail
        refine lexL_go (HS5.out w6 b6) ?_
        repeat (first | (refine lexL_q0 rfl ?_; go_big_quiet_step (fail); refine wpQuiet_nil ?_) | (refine lexL_skip0 rfl rfl ?_; simp only [Act.put, List.setIfInBounds_toArray, List.set_cons_succ, List.set_cons_zero]))
        have hown5' := hown5.ext hb6
        have hsl := Hsl.out
        refine lexL_e rfl ?_
        refine wpList_appR encB_len encB_one (.int .u8 0) 1 _ _ 22 5 W3.heap.size f.s (tornL f.p yt.keep tt.lost) A6 (keepN f.p yt.keep) c6 (.slice A5 x.n1 c5) (x.n1 + keepN f.p yt.keep) rfl rfl Try.underlying22 infoB rfl (by omega) rfl rfl hown5' hown6.recs (by omega) (by omega) (by omega) (by have := b6.size; omega) ?_
        intro A7 c7 w7 hown7 hgr7 hat7 hc71 hc72
        have b7 : Below W3.heap.size W3 w7 := hown5'.grow hgr7 b6 (Nat.le_refl _) b6.size
        refine lexL_go (HS5.out w7 b7) ?_
        simp only [Act.put, List.setIfInBounds_toArray, List.set_cons_succ, List.set_cons_zero]
        repeat (first | (refine lexL_q0 rfl ?_; go_big_quiet_step (fail); refine wpQuiet_nil ?_) | (refine lexL_skip0 rfl rfl ?_; simp only [Act.put, List.setIfInBounds_toArray, List.set_cons_succ, List.set_cons_zero]))
        have ha8 : ∀ o, Below w7.heap.size w7 (w7.alloc o) := fun o => (Below.refl _ _).alloc (Nat.le_refl _) o
        have b8 := Below.ext b7 (ha8 (.cells #[.slice A7 (x.n1 + keepN f.p yt.keep) c7, .slice none 0 0] 42))
        have hone : Recs encF (fun _ => True) (w7.alloc (.cells #[.slice A7 (x.n1 + keepN f.p yt.keep) c7, .slice none 0 0] 42)) (.slice (some ⟨w7.heap.size, 0, none⟩) 1 1) [⟨A7, x.n1 + keepN f.p yt.keep, c7, none, 0, 0⟩] := ⟨_, 1, rfl, by simp, by simp [maxLen], Cs.lit _ _ _ _ _ trivial rfl⟩
        refine lexL_e rfl ?_
        go_wp2_with fail
        refine lexL_go (HS5.out w7 b7) ?_
        repeat (first | (refine lexL_q0 rfl ?_; go_big_quiet_step (fail); refine wpQuiet_nil ?_) | (refine lexL_skip0 rfl rfl ?_; simp only [Act.put, List.setIfInBounds_toArray, List.set_cons_succ, List.set_cons_zero]))
        refine lexL_e rfl ?_
        go_wp2_with fail
        refine lexL_go (HS5.out _ b8) ?_
        repeat (first | (refine lexL_q0 rfl ?_; go_big_quiet_step (fail); refine wpQuiet_nil ?_) | (refine lexL_skip0 rfl rfl ?_; simp only [Act.put, List.setIfInBounds_toArray, List.set_cons_succ, List.set_cons_zero]))
        have b8r := Below.ext hbW3 b8
        have hlk := hF.len
        obtain ⟨xs, hxo, hxl, hxe⟩ := hF
        have hlx : xs.length = j := by omega
        have Hlx := Lib.hid hlx
        have hxo8 := hxo.ext b8r
        have hrow : ∀ b, (Value.slice A' j c').ownBlock = some b → w.heap.size + 3 ≤ b ∧ b < wr.heap.size := fun b e => World.ownsRow.lt hxo _ e
        clear hlx
        refine lexL_e rfl ?_
        refine wpList_appR encF_len encF_one zeroF 48 _ _ 43 42 (w.heap.size + 3) xs [⟨A7, x.n1 + keepN f.p yt.keep, c7, none, 0, 0⟩] (some ⟨w7.heap.size, 0, none⟩) 1 1 (.slice A' j c') (j + 1) rfl rfl Try.underlying43 infoF rfl (by omega) rfl rfl hxo8 hone (by rw [Hlx.out]) (by have := Hlx.out; omega) (by have := Hlx.out; omega) (by have := b8r.size; omega) ?_
        intro A9 c9 w9 hown9 hgr9 hat9 hc91 hc92
        have s8 := b8.size
        have hS9 : w9.heap[w.heap.size + 2]? = some (.cells #[.slice A' j c'] 45 (0, 0)) ∧ w9.heap[wr.heap.size]? = some (.cells #[.int .i64 yt.keep, .slice yt.A yt.n yt.c] 57 (0, 0)) ∧ w9.heap[wr.heap.size + 1]? = some (.cells #[.slice x.A1 x.n1 x.c1, .slice x.A2 x.n2 x.c2] 42 (0, 0)) := by
          have h8 := HS5.out _ b8
          have hs3 := HsW3.out
          exact ⟨(hgr9.block _ (by omega) (fun e => by have := hrow _ e.symm; omega)).trans h8.1, (hgr9.block _ (by omega) (fun e => by have := hrow _ e.symm; omega)).trans h8.2.1, (hgr9.block _ (by omega) (fun e => by have := hrow _ e.symm; omega)).trans h8.2.2⟩
        have hro9 := hS9.1
        refine lexL_go hS9 ?_
        clear hS9
        simp only [Act.put, List.setIfInBounds_toArray, List.set_cons_succ, List.set_cons_zero]
        refine lexL_nil ?_
        have q9 : w9.frozen? ⟨w.heap.size + 2, 0, none⟩ = false := frozen_of_row _ _ _ _ _ hro9
        have q9' : w9.cell? ⟨w.heap.size + 2, 0, none⟩ = some (.slice A' j c') := by rw [cell_of_row _ _ _ _ _ _ hro9]; rfl
        have HRO9 := Lib.hid hro9
        clear hro9
        have hgS : w9.grownBy (w9.setCell ⟨w.heap.size + 2, 0, none⟩ (.slice A9 (j + 1) c9)) (some (w.heap.size + 2)) := grown_set (grown_refl' _ _)
        have hro10 : (w9.setCell ⟨w.heap.size + 2, 0, none⟩ (.slice A9 (j + 1) c9)).heap[w.heap.size + 2]? = some (.cells #[.slice A9 (j + 1) c9] 45 (0, 0)) := heap_setCell_same _ _ _ _ _ _ HRO9.out
        have hfok : FOk (fun b => w.heap.size + 3 ≤ b ∧ (Value.slice A' j c').ownBlock ≠ some b) (w7.alloc (.cells #[.slice A7 (x.n1 + keepN f.p yt.keep) c7, .slice none 0 0] 42)) ⟨A7, x.n1 + keepN f.p yt.keep, c7, none, 0, 0⟩ (crashF ts j f) := by
          refine ⟨?_, Recs.nil_ _ _⟩
          rw [show (crashF ts j f).s = f.s ++ tornL f.p yt.keep tt.lost by unfold crashF; rw [HHT1.out, HHT2.out]]
          exact (hown7.recs.ext (ha8 _)).mono (fun b _ h => ⟨by have := h.1; have := HsW3.out; omega, fun e => by have := (hrow b e).2; have := h.1; have := HsW3.out; omega⟩)
        have hfil := (FilOwn.push ⟨hxl, fun i x' f' hx' hf' => (hxe i x' f' hx' hf').ext b8r⟩ ⟨A7, x.n1 + keepN f.p yt.keep, c7, none, 0, 0⟩ (crashF ts j f) hfok hown9 hgr9 hat9).kept hgS (by omega)
        rw [← crash_take fs ts j f HF.out] at hfil
        have hb9 : Below w.heap.size w w9 := hxo8.grow hgr9 (Below.ext hbr b8r) (by omega) (by have := b8r.size; omega)
        have hb10 := Below.grow hb9 hgS (by omega)
        have hgg : W.grownBy (w9.setCell ⟨w.heap.size + 2, 0, none⟩ (.slice A9 (j + 1) c9)) (some (w.heap.size + 2)) := by
          have h1 := grown_trans' hgr (grown_of_below' b8r)
          refine ⟨hgS.os.trans (hgr9.os.trans h1.os), hgS.tape.trans (hgr9.tape.trans h1.tape), hgS.output.trans (hgr9.output.trans h1.output), Nat.le_trans h1.size (Nat.le_trans hgr9.size hgS.size), fun i hi hne => ?_⟩
          have hi8 : i < (w7.alloc (.cells #[.slice A7 (x.n1 + keepN f.p yt.keep) c7, .slice none 0 0] 42)).heap.size := Nat.lt_of_lt_of_le hi h1.size
          exact (hgS.block i (Nat.lt_of_lt_of_le hi8 hgr9.size) hne).trans ((hgr9.block i hi8 (fun e => by have := hrow _ e.symm; have := HsW.out; omega)).trans (h1.block i hi hne))
        have HFIL := Lib.hid hfil
        have HB10 := Lib.hid hb10
        have HGG := Lib.hid hgg
        have HRO10 := Lib.hid hro10
        clear hfil hb10 hgg hro10 hfok hgS hown9 hgr9 hat9 hown7 hgr7 hat7 hown5 hown5' hown6
        go_wp2_with fail
        rw [Only_normal]
        go_wp2
        go_roundw
        case rel => exact ⟨j + 1, A9, c9, by go_num, by omega, HRO10.out, HFIL.out, HB10.out, HGG.out⟩
        case measure => simp [intOf]; omega
      · have dt : decide (j < nt) = false := by simpa using hjt
        have hto : tearOf ts j = ⟨0, []⟩ := by unfold tearOf; rw [List.getElem?_eq_none (by have := HT1.out; omega)]; rfl
        have HT1' : (tearOf ts j).keep = 0 := by rw [hto]
        have HT2' : (tearOf ts j).lost = [] := by rw [hto]
        have HHT1 := Lib.hid HT1'
        have HHT2 := Lib.hid HT2'
        clear hto HT1' HT2'
        go_wp2_with fail
        obtain ⟨W3, hW3⟩ : ∃ W3, W3 = (wr.alloc (.cells #[.int .i64 0, .slice none 0 0] 57)).alloc (.cells #[.slice x.A1 x.n1 x.c1, .slice x.A2 x.n2 x.c2] 42) := ⟨_, rfl⟩
        have hbW3 : Below wr.heap.size wr W3 := by rw [hW3]; exact ((Below.refl _ _).alloc (Nat.le_refl _) _).alloc (by simp) _
        have hsW3 : W3.heap.size = wr.heap.size + 2 := by rw [hW3]; simp
        have hrT : W3.heap[wr.heap.size]? = some (.cells #[.int .i64 0, .slice none 0 0] 57 (0, 0)) := by rw [hW3]; exact (((Below.refl _ _).alloc (Nat.le_refl _) _).block wr.heap.size (by simp)).trans (heap_alloc_new wr _)
        have hrF : W3.heap[wr.heap.size + 1]? = some (.cells #[.slice x.A1 x.n1 x.c1, .slice x.A2 x.n2 x.c2] 42 (0, 0)) := by
          rw [hW3]
          have := heap_alloc_new (wr.alloc (.cells #[.int .i64 0, .slice none 0 0] 57)) (.cells #[.slice x.A1 x.n1 x.c1, .slice x.A2 x.n2 x.c2] 42)
          rw [World.size_alloc] at this
          exact this
        have hrO := (hbW3.block (w.heap.size + 2) hO).trans HO.out
        rw [← hW3]
        have HsW3 := Lib.hid hsW3
        have HrT := Lib.hid hrT
        have HrF := Lib.hid hrF
        have HrO := Lib.hid hrO
        clear hW3 hsW3 hrT hrF hrO q0' c0' c1'
        have bw3 := Below.ext hbr hbW3
        have hcell : ∀ (w' : World) (g o : Nat) (cs : Array Value) (e : TypeId) (v : Value), w'.heap[g]? = some (.cells cs e (0, 0)) → cs[o]? = some v → w'.cell? ⟨g, o, none⟩ = some v := fun w' g o cs e v h hv => by rw [cell_of_row _ _ _ _ _ _ h]; exact hv
        have HC := Lib.hid hcell
        clear hcell
        refine wp_region_tail (fun w' => w'.heap[w.heap.size + 2]? = some (.cells #[.slice A' j c'] 45 (0, 0)) ∧ w'.heap[wr.heap.size]? = some (.cells #[.int .i64 0, .slice none 0 0] 57 (0, 0)) ∧ w'.heap[wr.heap.size + 1]? = some (.cells #[.slice x.A1 x.n1 x.c1, .slice x.A2 x.n2 x.c2] 42 (0, 0))) 13 (by kernel_rfl) (by kernel_rfl) (by kernel_rfl) (by decide) ⟨HrO.out, HrT.out, HrF.out⟩ ?_
        simp only [List.take_succ_cons, List.take_zero, List.drop_succ_cons, List.drop_zero]
        repeat (first | (refine lexL_q0 rfl ?_; go_big_quiet_step (fail); refine wpQuiet_nil ?_) | (refine lexL_skip0 rfl rfl ?_; simp only [Act.put, List.setIfInBounds_toArray, List.set_cons_succ, List.set_cons_zero]))
        refine lexL_ld (⟨w.heap.size + 2, 0, none⟩) (.slice A' j c') rfl rfl rfl (fun w' hS => run_ld1 (A22.out _) (HC.out w' _ 0 _ _ _ hS.1 rfl)) ?_
        simp only [Act.put, List.setIfInBounds_toArray, List.set_cons_succ, List.set_cons_zero]
        repeat (first | (refine lexL_q0 rfl ?_; go_big_quiet_step (fail); refine wpQuiet_nil ?_) | (refine lexL_skip0 rfl rfl ?_; simp only [Act.put, List.setIfInBounds_toArray, List.set_cons_succ, List.set_cons_zero]))
        refine lexL_ld (⟨wr.heap.size + 1, 0, none⟩) (.slice x.A1 x.n1 x.c1) rfl rfl rfl (fun w' hS => run_ld1 (A30.out _) (HC.out w' _ 0 _ _ _ hS.2.2 rfl)) ?_
        simp only [Act.put, List.setIfInBounds_toArray, List.set_cons_succ, List.set_cons_zero]
        repeat (first | (refine lexL_q0 rfl ?_; go_big_quiet_step (fail); refine wpQuiet_nil ?_) | (refine lexL_skip0 rfl rfl ?_; simp only [Act.put, List.setIfInBounds_toArray, List.set_cons_succ, List.set_cons_zero]))
        have hx3 := (hx.s.ext bw3).ext (w' := W3.drew) (Below.refl _ _).drew
        refine lexL_e rfl ?_
        refine wpList_appR encB_len encB_one (.int .u8 0) 1 _ _ 22 5 W3.heap.size [] f.s x.A1 x.n1 x.c1 (.slice none 0 0) x.n1 rfl rfl Try.underlying22 infoB rfl (by omega) rfl rfl (OwnR.nil_ _ _ _) hx3 (by simp) (by simp; omega) (by simp; omega) (Nat.le_refl _) ?_
        intro A5 c5 w5 hown5 hgr5 hat5 hc51 hc52
        have b5 : Below W3.heap.size W3 w5 := ⟨hgr5.os, hgr5.tape, hgr5.output, hgr5.size, fun i hi => hgr5.block i hi (by simp [Value.ownBlock])⟩
        rw [List.nil_append] at hown5
        have hls : ∀ b, b < W3.heap.size → ∀ w', Below W3.heap.size W3 w' → w'.heap[b]? = W3.heap[b]? := fun b hb w' h => h.block b hb
        have HLS := Lib.hid hls
        have hS5 := fun (w' : World) (h : Below W3.heap.size W3 w') => (⟨(h.block (w.heap.size + 2) (by have := HsW3.out; omega)).trans HrO.out, (h.block wr.heap.size (by have := HsW3.out; omega)).trans HrT.out, (h.block (wr.heap.size + 1) (by have := HsW3.out; omega)).trans HrF.out⟩ : w'.heap[w.heap.size + 2]? = some (.cells #[.slice A' j c'] 45 (0, 0)) ∧ w'.heap[wr.heap.size]? = some (.cells #[.int .i64 0, .slice none 0 0] 57 (0, 0)) ∧ w'.heap[wr.heap.size + 1]? = some (.cells #[.slice x.A1 x.n1 x.c1, .slice x.A2 x.n2 x.c2] 42 (0, 0)))
        have HS5 := Lib.hid hS5
        clear hls hS5 hgr5 hat5
        refine lexL_go (HS5.out w5 b5) ?_
        simp only [Act.put, List.setIfInBounds_toArray, List.set_cons_succ, List.set_cons_zero]
        repeat (first | (refine lexL_q0 rfl ?_; go_big_quiet_step (fail); refine wpQuiet_nil ?_) | (refine lexL_skip0 rfl rfl ?_; simp only [Act.put, List.setIfInBounds_toArray, List.set_cons_succ, List.set_cons_zero]))
        refine lexL_ld (⟨wr.heap.size + 1, 1, none⟩) (.slice x.A2 x.n2 x.c2) rfl rfl rfl (fun w' hS => run_ld1 (A30.out _) (HC.out w' _ 1 _ _ _ hS.2.2 rfl)) ?_
        simp only [Act.put, List.setIfInBounds_toArray, List.set_cons_succ, List.set_cons_zero]
        repeat (first | (refine lexL_q0 rfl ?_; go_big_quiet_step (fail); refine wpQuiet_nil ?_) | (refine lexL_skip0 rfl rfl ?_; simp only [Act.put, List.setIfInBounds_toArray, List.set_cons_succ, List.set_cons_zero]))
        refine lexL_ld (⟨wr.heap.size, 0, none⟩) (.agg #[.int .i64 0, .slice none 0 0]) rfl rfl rfl (fun w' hS => run_ld_block hS.2.1 Try.underlying57 rfl (by kernel_rfl)) ?_
        simp only [Act.put, List.setIfInBounds_toArray, List.set_cons_succ, List.set_cons_zero]
        repeat (first | (refine lexL_q0 rfl ?_; go_big_quiet_step (fail); refine wpQuiet_nil ?_) | (refine lexL_skip0 rfl rfl ?_; simp only [Act.put, List.setIfInBounds_toArray, List.set_cons_succ, List.set_cons_zero]))
        refine lexL_e rfl ?_
        go_wp2_with fail
        refine (torn_any x.A2 x.n2 x.c2 f.p _ 0 none 0 0 [] _ w5 ((hx.p.ext bw3).ext b5) (Recs.nil_ (fun _ => True) _) (by omega) (by omega)).mono ?_
        rintro e w6 ⟨A6, c6, rfl, hown6, hb6⟩
        have b6 := Below.ext b5 hb6
        have hkp := keepN_le f.p 0
        have hpl := Hp.out
        have s5 := b5.size
        go_wp2_with fail
        refine lexL_go (HS5.out w6 b6) ?_
        repeat (first | (refine lexL_q0 rfl ?_; go_big_quiet_step (fail); refine wpQuiet_nil ?_) | (refine lexL_skip0 rfl rfl ?_; simp only [Act.put, List.setIfInBounds_toArray, List.set_cons_succ, List.set_cons_zero]))
        have hown5' := hown5.ext hb6
        have hsl := Hsl.out
        refine lexL_e rfl ?_
        refine wpList_appR encB_len encB_one (.int .u8 0) 1 _ _ 22 5 W3.heap.size f.s (tornL f.p 0 []) A6 (keepN f.p 0) c6 (.slice A5 x.n1 c5) (x.n1 + keepN f.p 0) rfl rfl Try.underlying22 infoB rfl (by omega) rfl rfl hown5' hown6.recs (by omega) (by omega) (by omega) (by have := b6.size; omega) ?_
        intro A7 c7 w7 hown7 hgr7 hat7 hc71 hc72
        have b7 : Below W3.heap.size W3 w7 := hown5'.grow hgr7 b6 (Nat.le_refl _) b6.size
        refine lexL_go (HS5.out w7 b7) ?_
        simp only [Act.put, List.setIfInBounds_toArray, List.set_cons_succ, List.set_cons_zero]
        repeat (first | (refine lexL_q0 rfl ?_; go_big_quiet_step (fail); refine wpQuiet_nil ?_) | (refine lexL_skip0 rfl rfl ?_; simp only [Act.put, List.setIfInBounds_toArray, List.set_cons_succ, List.set_cons_zero]))
        have ha8 : ∀ o, Below w7.heap.size w7 (w7.alloc o) := fun o => (Below.refl _ _).alloc (Nat.le_refl _) o
        have b8 := Below.ext b7 (ha8 (.cells #[.slice A7 (x.n1 + keepN f.p 0) c7, .slice none 0 0] 42))
        have hone : Recs encF (fun _ => True) (w7.alloc (.cells #[.slice A7 (x.n1 + keepN f.p 0) c7, .slice none 0 0] 42)) (.slice (some ⟨w7.heap.size, 0, none⟩) 1 1) [⟨A7, x.n1 + keepN f.p 0, c7, none, 0, 0⟩] := ⟨_, 1, rfl, by simp, by simp [maxLen], Cs.lit _ _ _ _ _ trivial rfl⟩
        refine lexL_e rfl ?_
        go_wp2_with fail
        refine lexL_go (HS5.out w7 b7) ?_
        repeat (first | (refine lexL_q0 rfl ?_; go_big_quiet_step (fail); refine wpQuiet_nil ?_) | (refine lexL_skip0 rfl rfl ?_; simp only [Act.put, List.setIfInBounds_toArray, List.set_cons_succ, List.set_cons_zero]))
        refine lexL_e rfl ?_
        go_wp2_with fail
        refine lexL_go (HS5.out _ b8) ?_
        repeat (first | (refine lexL_q0 rfl ?_; go_big_quiet_step (fail); refine wpQuiet_nil ?_) | (refine lexL_skip0 rfl rfl ?_; simp only [Act.put, List.setIfInBounds_toArray, List.set_cons_succ, List.set_cons_zero]))
        have b8r := Below.ext hbW3 b8
        have hlk := hF.len
        obtain ⟨xs, hxo, hxl, hxe⟩ := hF
        have hlx : xs.length = j := by omega
        have Hlx := Lib.hid hlx
        have hxo8 := hxo.ext b8r
        have hrow : ∀ b, (Value.slice A' j c').ownBlock = some b → w.heap.size + 3 ≤ b ∧ b < wr.heap.size := fun b e => World.ownsRow.lt hxo _ e
        clear hlx
        refine lexL_e rfl ?_
        refine wpList_appR encF_len encF_one zeroF 48 _ _ 43 42 (w.heap.size + 3) xs [⟨A7, x.n1 + keepN f.p 0, c7, none, 0, 0⟩] (some ⟨w7.heap.size, 0, none⟩) 1 1 (.slice A' j c') (j + 1) rfl rfl Try.underlying43 infoF rfl (by omega) rfl rfl hxo8 hone (by rw [Hlx.out]) (by have := Hlx.out; omega) (by have := Hlx.out; omega) (by have := b8r.size; omega) ?_
        intro A9 c9 w9 hown9 hgr9 hat9 hc91 hc92
        have s8 := b8.size
        have hS9 : w9.heap[w.heap.size + 2]? = some (.cells #[.slice A' j c'] 45 (0, 0)) ∧ w9.heap[wr.heap.size]? = some (.cells #[.int .i64 0, .slice none 0 0] 57 (0, 0)) ∧ w9.heap[wr.heap.size + 1]? = some (.cells #[.slice x.A1 x.n1 x.c1, .slice x.A2 x.n2 x.c2] 42 (0, 0)) := by
          have h8 := HS5.out _ b8
          have hs3 := HsW3.out
          exact ⟨(hgr9.block _ (by omega) (fun e => by have := hrow _ e.symm; omega)).trans h8.1, (hgr9.block _ (by omega) (fun e => by have := hrow _ e.symm; omega)).trans h8.2.1, (hgr9.block _ (by omega) (fun e => by have := hrow _ e.symm; omega)).trans h8.2.2⟩
        have hro9 := hS9.1
        refine lexL_go hS9 ?_
        clear hS9
        simp only [Act.put, List.setIfInBounds_toArray, List.set_cons_succ, List.set_cons_zero]
        refine lexL_nil ?_
        have q9 : w9.frozen? ⟨w.heap.size + 2, 0, none⟩ = false := frozen_of_row _ _ _ _ _ hro9
        have q9' : w9.cell? ⟨w.heap.size + 2, 0, none⟩ = some (.slice A' j c') := by rw [cell_of_row _ _ _ _ _ _ hro9]; rfl
        have HRO9 := Lib.hid hro9
        clear hro9
        have hgS : w9.grownBy (w9.setCell ⟨w.heap.size + 2, 0, none⟩ (.slice A9 (j + 1) c9)) (some (w.heap.size + 2)) := grown_set (grown_refl' _ _)
        have hro10 : (w9.setCell ⟨w.heap.size + 2, 0, none⟩ (.slice A9 (j + 1) c9)).heap[w.heap.size + 2]? = some (.cells #[.slice A9 (j + 1) c9] 45 (0, 0)) := heap_setCell_same _ _ _ _ _ _ HRO9.out
        have hfok : FOk (fun b => w.heap.size + 3 ≤ b ∧ (Value.slice A' j c').ownBlock ≠ some b) (w7.alloc (.cells #[.slice A7 (x.n1 + keepN f.p 0) c7, .slice none 0 0] 42)) ⟨A7, x.n1 + keepN f.p 0, c7, none, 0, 0⟩ (crashF ts j f) := by
          refine ⟨?_, Recs.nil_ _ _⟩
          rw [show (crashF ts j f).s = f.s ++ tornL f.p 0 [] by unfold crashF; rw [HHT1.out, HHT2.out]]
          exact (hown7.recs.ext (ha8 _)).mono (fun b _ h => ⟨by have := h.1; have := HsW3.out; omega, fun e => by have := (hrow b e).2; have := h.1; have := HsW3.out; omega⟩)
        have hfil := (FilOwn.push ⟨hxl, fun i x' f' hx' hf' => (hxe i x' f' hx' hf').ext b8r⟩ ⟨A7, x.n1 + keepN f.p 0, c7, none, 0, 0⟩ (crashF ts j f) hfok hown9 hgr9 hat9).kept hgS (by omega)
        rw [← crash_take fs ts j f HF.out] at hfil
        have hb9 : Below w.heap.size w w9 := hxo8.grow hgr9 (Below.ext hbr b8r) (by omega) (by have := b8r.size; omega)
        have hb10 := Below.grow hb9 hgS (by omega)
        have hgg : W.grownBy (w9.setCell ⟨w.heap.size + 2, 0, none⟩ (.slice A9 (j + 1) c9)) (some (w.heap.size + 2)) := by
          have h1 := grown_trans' hgr (grown_of_below' b8r)
          refine ⟨hgS.os.trans (hgr9.os.trans h1.os), hgS.tape.trans (hgr9.tape.trans h1.tape), hgS.output.trans (hgr9.output.trans h1.output), Nat.le_trans h1.size (Nat.le_trans hgr9.size hgS.size), fun i hi hne => ?_⟩
          have hi8 : i < (w7.alloc (.cells #[.slice A7 (x.n1 + keepN f.p 0) c7, .slice none 0 0] 42)).heap.size := Nat.lt_of_lt_of_le hi h1.size
          exact (hgS.block i (Nat.lt_of_lt_of_le hi8 hgr9.size) hne).trans ((hgr9.block i hi8 (fun e => by have := hrow _ e.symm; have := HsW.out; omega)).trans (h1.block i hi hne))
        have HFIL := Lib.hid hfil
        have HB10 := Lib.hid hb10
        have HGG := Lib.hid hgg
        have HRO10 := Lib.hid hro10
        clear hfil hb10 hgg hro10 hfok hgS hown9 hgr9 hat9 hown7 hgr7 hat7 hown5 hown5' hown6
        go_wp2_with fail
        rw [Only_normal]
        go_wp2
        go_roundw
        case rel => exact ⟨j + 1, A9, c9, by go_num, by omega, HRO10.out, HFIL.out, HB10.out, HGG.out⟩
        case measure => simp [intOf]; omega
    · obtain rfl : j = n := by omega
      have qO : wr.cell? ⟨w.heap.size + 2, 0, none⟩ = some (.slice A' j c') := by rw [cell_of_row _ _ _ _ _ _ HO.out]; rfl
      have Z5 := Lib.hid ((hgr.block (w.heap.size + 1) (by have := HsW.out; omega) (by simp)).trans R1.out)
      go_wp2_with (refine wpList_store_row rfl 45 _ _ rfl (w.heap.size + 1) 45 _ _ rfl rfl Z5.out (by kernel_rfl) rfl (by simp [Value.oneCell']) ?_)
      refine bodyPost_ret (results_c rfl rfl (run_ld_block (setRow_heap _ _ _ _ _ _ Z5.out) Try.underlying45 rfl (by kernel_rfl))) rfl ?_
      rw [List.take_of_length_le (by unfold crashL; simp [HD1.out])] at hF
      refine ⟨A', c', rfl, ((hF.dsk.mono (S' := fun b => w.heap.size + 3 ≤ b) (fun b _ h => h)).keep (fun b hb hs => setRow_other _ _ _ _ (by omega))).mono (fun b _ h => by omega), Below.setRow hbr (by omega) _⟩
end Go.Proofs.Ytjcfnpmgklliiaa

namespace Go.Proofs.Ytjcfnpmgklliiaa
open Go.RowKit
set_option maxRecDepth 100000
set_option linter.unusedVariables false

set_option maxHeartbeats 2000000 in
theorem samedisk_eq (A1 A2 : Option Addr) (n c1 c2 : Nat) (fs : List Fil) (S1 S2 : Nat → Prop) (w : World) (h1 : Dsk S1 w (.slice A1 n c1) fs) (h2 : Dsk S2 w (.slice A2 n c2) fs) (hn : n ≤ 1000000) :
    Calls Try.prog 23 #[.agg #[.slice A1 n c1], .agg #[.slice A2 n c2]] w fun e w' => e = .returned (.bool true) ∧ Below w.heap.size w w' := by
  obtain ⟨W, hW, bW, hsW, r1, r2⟩ : ∃ W, W = (w.alloc (.cells #[.slice A1 n c1] 45)).alloc (.cells #[.slice A2 n c2] 45) ∧ Below w.heap.size w W ∧ W.heap.size = w.heap.size + 2 ∧
      W.heap[w.heap.size]? = some (.cells #[.slice A1 n c1] 45 (0, 0)) ∧ W.heap[w.heap.size + 1]? = some (.cells #[.slice A2 n c2] 45 (0, 0)) := by
    refine ⟨_, rfl, ((Below.refl _ w).alloc (Nat.le_refl _) _).alloc (by simp) _, by simp, ?_, ?_⟩
    · exact (((Below.refl _ _).alloc (Nat.le_refl _) _).block w.heap.size (by simp)).trans (heap_alloc_new w _)
    · have := heap_alloc_new (w.alloc (.cells #[.slice A1 n c1] 45)) (.cells #[.slice A2 n c2] 45)
      rw [World.size_alloc] at this
      exact this
  have hl1 := h1.len
  have k1 := h1.ext bW
  have k2 := h2.ext bW
  have q1 : W.cell? ⟨w.heap.size, 0, none⟩ = some (.slice A1 n c1) := by rw [cell_of_row _ _ _ _ _ _ r1]; rfl
  have q2 : W.cell? ⟨w.heap.size + 1, 0, none⟩ = some (.slice A2 n c2) := by rw [cell_of_row _ _ _ _ _ _ r2]; rfl
  have R1 := Lib.hid q1
  have R2 := Lib.hid q2
  have ag22 : ∀ w : World, (isAgg 43).run Try.prog w = .ok false w := fun w => by simp [isAgg, run_underlying Try.underlying43]
  have ag30 : ∀ w : World, (isAgg 22).run Try.prog w = .ok false w := fun w => by simp [isAgg, run_underlying Try.underlying22]
  have A22 := Lib.hid ag22
  have A30 := Lib.hid ag30
  have HsW := Lib.hid hsW
  clear ag22 ag30 r1 r2 hsW
  go_enter Try.func23, Try.ntmps23
  rw [hW] at q1 q2
  go_wp2_with fail
  rw [← hW]
  clear q1 q2 hW
  go_loopw [5] (fun v wr => ∃ j : Nat, v = .int .i64 j ∧ j ≤ n ∧ Below W.heap.size W wr) (fun v _ => n - (intOf v).toNat)
  case atStart => exact ⟨0, rfl, by omega, Below.refl _ _⟩
  case round =>
    obtain ⟨j, rfl, hj, hbr⟩ := hrel
    have e1 : wr.cell? ⟨w.heap.size, 0, none⟩ = some (.slice A1 n c1) := (hbr.cell (p := ⟨w.heap.size, 0, none⟩) (by have := HsW.out; show w.heap.size < _; omega)).trans R1.out
    by_cases hlt : j < n
    · obtain ⟨b1, o1, x1, f1, rfl, hb1, hf1, hx1, u0, u1⟩ := k1.at_ hlt
      obtain ⟨b2, o2, x2, f2, rfl, hb2, hf2, hx2, v0, v1⟩ := k2.at_ hlt
      obtain rfl : f1 = f2 := by rw [hf1] at hf2; cases hf2; rfl
      have hcl : ∀ (w' : World) (p : Addr), Below W.heap.size W w' → p.block < W.heap.size → w'.cell? p = W.cell? p := fun w' p h hp => h.cell hp
      have HC := Lib.hid hcl
      have U0 := Lib.hid u0
      have U1 := Lib.hid u1
      have V0 := Lib.hid v0
      have V1 := Lib.hid v1
      clear hf1 hf2 u0 u1 v0 v1 hcl
      go_wp2_with fail
      refine wp_region_lexL (Below W.heap.size W) (by kernel_rfl) (by kernel_rfl) (hbr.drew) ?_
      repeat (first | (refine lexL_q0 rfl ?_; go_big_quiet_step (fail); refine wpQuiet_nil ?_) | (refine lexL_skip0 rfl rfl ?_; simp only [Act.put, List.setIfInBounds_toArray, List.set_cons_succ, List.set_cons_zero]))
      refine lexL_ld (⟨w.heap.size, 0, none⟩) (.slice (some ⟨b1, o1, none⟩) n c1) rfl rfl rfl (fun w' hS => run_ld1 (A22.out _) ((HC.out w' ⟨w.heap.size, 0, none⟩ hS (by have := HsW.out; show w.heap.size < _; omega)).trans R1.out)) ?_
      simp only [Act.put, List.setIfInBounds_toArray, List.set_cons_succ, List.set_cons_zero]
      repeat (first | (refine lexL_q0 rfl ?_; go_big_quiet_step (fail); refine wpQuiet_nil ?_) | (refine lexL_skip0 rfl rfl ?_; simp only [Act.put, List.setIfInBounds_toArray, List.set_cons_succ, List.set_cons_zero]))
      refine lexL_ld (⟨b1, o1 + j * 2, none⟩) (.slice x1.A1 x1.n1 x1.c1) rfl rfl rfl (fun w' hS => run_ld1 (A30.out _) ((HC.out w' ⟨b1, o1 + j * 2, none⟩ hS hb1).trans U0.out)) ?_
      simp only [Act.put, List.setIfInBounds_toArray, List.set_cons_succ, List.set_cons_zero]
      repeat (first | (refine lexL_q0 rfl ?_; go_big_quiet_step (fail); refine wpQuiet_nil ?_) | (refine lexL_skip0 rfl rfl ?_; simp only [Act.put, List.setIfInBounds_toArray, List.set_cons_succ, List.set_cons_zero]))
      refine lexL_ld (⟨w.heap.size + 1, 0, none⟩) (.slice (some ⟨b2, o2, none⟩) n c2) rfl rfl rfl (fun w' hS => run_ld1 (A22.out _) ((HC.out w' ⟨w.heap.size + 1, 0, none⟩ hS (by have := HsW.out; show w.heap.size + 1 < _; omega)).trans R2.out)) ?_
      simp only [Act.put, List.setIfInBounds_toArray, List.set_cons_succ, List.set_cons_zero]
      repeat (first | (refine lexL_q0 rfl ?_; go_big_quiet_step (fail); refine wpQuiet_nil ?_) | (refine lexL_skip0 rfl rfl ?_; simp only [Act.put, List.setIfInBounds_toArray, List.set_cons_succ, List.set_cons_zero]))
      refine lexL_ld (⟨b2, o2 + j * 2, none⟩) (.slice x2.A1 x2.n1 x2.c1) rfl rfl rfl (fun w' hS => run_ld1 (A30.out _) ((HC.out w' ⟨b2, o2 + j * 2, none⟩ hS hb2).trans V0.out)) ?_
      simp only [Act.put, List.setIfInBounds_toArray, List.set_cons_succ, List.set_cons_zero]
      repeat (first | (refine lexL_q0 rfl ?_; go_big_quiet_step (fail); refine wpQuiet_nil ?_) | (refine lexL_skip0 rfl rfl ?_; simp only [Act.put, List.setIfInBounds_toArray, List.set_cons_succ, List.set_cons_zero]))
      refine lexL_e rfl ?_
      go_wp2_with fail
      refine (samebytes_eq _ _ f1.s _ _ wr.drew ((hx1.s.ext hbr).drew) ((hx2.s.ext hbr).drew)).mono ?_
      rintro e w4 ⟨rfl, hb4⟩
      have b4 : Below W.heap.size W w4 := Below.ext hbr.drew hb4
      go_wp2_with fail
      refine lexL_go (b4) ?_
      repeat (first | (refine lexL_q0 rfl ?_; go_big_quiet_step (fail); refine wpQuiet_nil ?_) | (refine lexL_skip0 rfl rfl ?_; simp only [Act.put, List.setIfInBounds_toArray, List.set_cons_succ, List.set_cons_zero]))
      refine lexL_ld (⟨w.heap.size, 0, none⟩) (.slice (some ⟨b1, o1, none⟩) n c1) rfl rfl rfl (fun w' hS => run_ld1 (A22.out _) ((HC.out w' ⟨w.heap.size, 0, none⟩ hS (by have := HsW.out; show w.heap.size < _; omega)).trans R1.out)) ?_
      simp only [Act.put, List.setIfInBounds_toArray, List.set_cons_succ, List.set_cons_zero]
      repeat (first | (refine lexL_q0 rfl ?_; go_big_quiet_step (fail); refine wpQuiet_nil ?_) | (refine lexL_skip0 rfl rfl ?_; simp only [Act.put, List.setIfInBounds_toArray, List.set_cons_succ, List.set_cons_zero]))
      refine lexL_ld (⟨b1, o1 + j * 2 + 1, none⟩) (.slice x1.A2 x1.n2 x1.c2) rfl rfl rfl (fun w' hS => run_ld1 (A30.out _) ((HC.out w' ⟨b1, o1 + j * 2 + 1, none⟩ hS hb1).trans U1.out)) ?_
      simp only [Act.put, List.setIfInBounds_toArray, List.set_cons_succ, List.set_cons_zero]
      repeat (first | (refine lexL_q0 rfl ?_; go_big_quiet_step (fail); refine wpQuiet_nil ?_) | (refine lexL_skip0 rfl rfl ?_; simp only [Act.put, List.setIfInBounds_toArray, List.set_cons_succ, List.set_cons_zero]))
      refine lexL_ld (⟨w.heap.size + 1, 0, none⟩) (.slice (some ⟨b2, o2, none⟩) n c2) rfl rfl rfl (fun w' hS => run_ld1 (A22.out _) ((HC.out w' ⟨w.heap.size + 1, 0, none⟩ hS (by have := HsW.out; show w.heap.size + 1 < _; omega)).trans R2.out)) ?_
      simp only [Act.put, List.setIfInBounds_toArray, List.set_cons_succ, List.set_cons_zero]
      repeat (first | (refine lexL_q0 rfl ?_; go_big_quiet_step (fail); refine wpQuiet_nil ?_) | (refine lexL_skip0 rfl rfl ?_; simp only [Act.put, List.setIfInBounds_toArray, List.set_cons_succ, List.set_cons_zero]))
      refine lexL_ld (⟨b2, o2 + j * 2 + 1, none⟩) (.slice x2.A2 x2.n2 x2.c2) rfl rfl rfl (fun w' hS => run_ld1 (A30.out _) ((HC.out w' ⟨b2, o2 + j * 2 + 1, none⟩ hS hb2).trans V1.out)) ?_
      simp only [Act.put, List.setIfInBounds_toArray, List.set_cons_succ, List.set_cons_zero]
      repeat (first | (refine lexL_q0 rfl ?_; go_big_quiet_step (fail); refine wpQuiet_nil ?_) | (refine lexL_skip0 rfl rfl ?_; simp only [Act.put, List.setIfInBounds_toArray, List.set_cons_succ, List.set_cons_zero]))
      refine lexL_e rfl ?_
      go_wp2_with fail
      refine (samebytes_eq _ _ f1.p _ _ w4 (hx1.p.ext b4) (hx2.p.ext b4)).mono ?_
      rintro e w5 ⟨rfl, hb5⟩
      have b5 := Below.ext b4 hb5
      go_wp2_with fail
      refine lexL_go (b5) ?_
      repeat (first | (refine lexL_q0 rfl ?_; go_big_quiet_step (fail); refine wpQuiet_nil ?_) | (refine lexL_skip0 rfl rfl ?_; simp only [Act.put, List.setIfInBounds_toArray, List.set_cons_succ, List.set_cons_zero]))
      refine lexL_nil ?_
      go_wp2_with fail
      go_wp2
      go_roundw
      case rel => exact ⟨j + 1, by go_num, by omega, b5⟩
      case measure => simp [intOf]; omega
    · obtain rfl : j = n := by omega
      go_wp2
      go_ret
      exact ⟨rfl, Below.ext bW hbr⟩
end Go.Proofs.Ytjcfnpmgklliiaa

namespace Go.Proofs.Ytjcfnpmgklliiaa
open Go.RowKit
set_option maxRecDepth 100000
set_option linter.unusedVariables false

set_option maxHeartbeats 1000000 in
theorem new_err (k : Int) (hk : k < 0 ∨ 16 < k) (w : World) :
    Calls Try.prog 29 #[.int .i64 k] w fun e w' => e = .returned (.tuple #[.agg #[.slice none 0 0], .int .i64 3]) ∧ Below w.heap.size w w' := by
  have hz0 : (w.alloc (.cells #[.slice none 0 0] 45)).heap[w.heap.size]? = some (.cells #[.slice none 0 0] 45 (0, 0)) := heap_alloc_new w _
  have Z := Lib.hid hz0
  have ha : Below w.heap.size w (w.alloc (.cells #[.slice none 0 0] 45)) := (Below.refl _ _).alloc (Nat.le_refl _) _
  clear hz0
  by_cases h0 : k < 0
  · have d0 : decide (k < 0) = true := by simpa using h0
    go_enter Try.func29, Try.ntmps29
    go_wp2_with (refine wpList_store_row rfl 45 _ _ rfl w.heap.size 45 _ _ rfl rfl Z.out (by kernel_rfl) rfl (by simp [Value.oneCell']) ?_)
    refine bodyPost_ret (results_ct rfl rfl (run_ld_block (setRow_heap _ _ _ _ _ _ Z.out) Try.underlying45 rfl (by kernel_rfl))) rfl ?_
    exact ⟨rfl, Below.setRow ha (Nat.le_refl _) _⟩
  · have d0 : decide (k < 0) = false := by simpa using h0
    have d1 : decide (16 < k) = true := by simp; omega
    go_enter Try.func29, Try.ntmps29
    go_wp2_with (refine wpList_store_row rfl 45 _ _ rfl w.heap.size 45 _ _ rfl rfl Z.out (by kernel_rfl) rfl (by simp [Value.oneCell']) ?_)
    refine bodyPost_ret (results_ct rfl rfl (run_ld_block (setRow_heap _ _ _ _ _ _ Z.out) Try.underlying45 rfl (by kernel_rfl))) rfl ?_
    exact ⟨rfl, Below.setRow ha (Nat.le_refl _) _⟩

set_option maxHeartbeats 1000000 in
theorem has_yes (A : Option Addr) (n c k : Nat) (w : World) (hk : k < n) (hn : n ≤ 1000) :
    Calls Try.prog 92 #[.agg #[.slice A n c], .int .i64 (k : Int)] w fun e w' => e = .returned (.bool true) ∧ Below w.heap.size w w' := by
  have d0 : decide ((0 : Int) ≤ (k : Int)) = true := by simp
  have d1 : decide (k < n) = true := by simpa using hk
  go_enter Try.func92, Try.ntmps92
  go_wp2
  go_ret
  exact ⟨rfl, (Below.refl _ w).alloc (Nat.le_refl _) _⟩
set_option maxHeartbeats 1000000 in
theorem has_no (A : Option Addr) (n c : Nat) (k : Int) (w : World) (hk : k < 0 ∨ (n : Int) ≤ k) (hn : n ≤ 1000) :
    Calls Try.prog 92 #[.agg #[.slice A n c], .int .i64 k] w fun e w' => e = .returned (.bool false) ∧ Below w.heap.size w w' := by
  by_cases h0 : k < 0
  · have d0 : decide (0 ≤ k) = false := by simp; omega
    go_enter Try.func92, Try.ntmps92
    go_wp2
    go_ret
    exact ⟨rfl, (Below.refl _ w).alloc (Nat.le_refl _) _⟩
  · have d0 : decide (0 ≤ k) = true := by simp; omega
    have d1 : decide (k < (n : Int)) = false := by simp; omega
    go_enter Try.func92, Try.ntmps92
    go_wp2
    go_ret
    exact ⟨rfl, (Below.refl _ w).alloc (Nat.le_refl _) _⟩

set_option maxHeartbeats 2000000 in
theorem set_any (A : Option Addr) (n c : Nat) (fs : List Fil) (S : Nat → Prop) (w : World) (hD : Dsk S w (.slice A n c) fs) (hn : n ≤ 1000) (k : Nat) (hk : k < n) (x : FV) (f : Fil) (hf : FOk S w x f) :
    Calls Try.prog 96 #[.agg #[.slice A n c], .int .i64 (k : Int), .agg #[.slice x.A1 x.n1 x.c1, .slice x.A2 x.n2 x.c2]] w fun e w' => ∃ A' c', e = .returned (.agg #[.slice A' n c']) ∧ Dsk (fun b => S b ∨ w.heap.size ≤ b) w' (.slice A' n c') (fs.set k f) ∧ Below w.heap.size w w' := by
  obtain ⟨xs, hR, hxl, hok⟩ := hD
  have hxn := hR.len
  obtain ⟨W, hW⟩ : ∃ W, W = ((w.alloc (.cells #[.slice A n c] 45)).alloc (.cells #[.slice x.A1 x.n1 x.c1, .slice x.A2 x.n2 x.c2] 42)).alloc (.cells #[.slice none 0 0] 45) := ⟨_, rfl⟩
  have hbW : Below w.heap.size w W := by rw [hW]; exact (((Below.refl _ w).alloc (Nat.le_refl _) _).alloc (by simp) _).alloc (by simp; omega) _
  have hsW : W.heap.size = w.heap.size + 3 := by rw [hW]; simp
  have q0 : W.cell? ⟨w.heap.size + 1, 0, none⟩ = some (.slice x.A1 x.n1 x.c1) := by rw [hW]; go_simp
  have q1 : W.cell? ⟨w.heap.size + 1, 1, none⟩ = some (.slice x.A2 x.n2 x.c2) := by rw [hW]; go_simp
  have hz : W.heap[w.heap.size + 1 + 1]? = some (.cells #[.slice none 0 0] 45 (0, 0)) := by
    rw [hW]
    have := heap_alloc_new ((w.alloc (.cells #[.slice A n c] 45)).alloc (.cells #[.slice x.A1 x.n1 x.c1, .slice x.A2 x.n2 x.c2] 42)) (.cells #[.slice none 0 0] 45)
    rw [World.size_alloc, World.size_alloc] at this
    exact this
  have HsW := Lib.hid hsW
  have Q0 := Lib.hid q0
  have Q1 := Lib.hid q1
  have Z := Lib.hid hz
  clear hsW q0 q1 hz
  go_enter Try.func96, Try.ntmps96
  go_wp2_with (first | (refine wpList_appR (o := ⟨some 10, _, _, _, _, _⟩) encF_len encF_one zeroF 48 _ _ 43 42 W.heap.size [] xs A n c (.slice none 0 0) n rfl rfl Try.underlying43 infoF rfl (by omega) rfl rfl (OwnR.nil_ _ _ _) (D := S) (by rw [← hW]; exact hR.ext hbW) (by simp) (by simp; omega) (by simp; omega) (by rw [← hW]; exact Nat.le_refl _) ?_; intro A1 c1 w1 hown1 hgr1 hat1 hc11 hc12; obtain ⟨g, rfl, hg1, hg2⟩ := OwnR.some_ hown1 (by simp; omega); rw [← hW] at hgr1; rw [List.nil_append] at hown1; have hb1 : Below W.heap.size W w1 := ⟨hgr1.os, hgr1.tape, hgr1.output, hgr1.size, fun i hi => hgr1.block i hi (by simp [Value.ownBlock])⟩; obtain ⟨⟨u0, hu0⟩, hf0⟩ := hown1.cellF hk 0 (by omega); obtain ⟨⟨u1, hu1⟩, hf1⟩ := hown1.cellF hk 1 (by omega); rw [Nat.add_zero] at hu0 hf0; have q0' := (hb1.cell (p := ⟨w.heap.size + 1, 0, none⟩) (by have := HsW.out; simp; omega)).trans Q0.out; have q1' := (hb1.cell (p := ⟨w.heap.size + 1, 1, none⟩) (by have := HsW.out; simp; omega)).trans Q1.out; have hgr2 : w1.grownBy ((w1.setCell ⟨g, k * 2, none⟩ (.slice x.A1 x.n1 x.c1)).setCell ⟨g, k * 2 + 1, none⟩ (.slice x.A2 x.n2 x.c2)) (some g) := grown_set' (grown_set' ⟨rfl, rfl, rfl, Nat.le_refl _, fun _ _ _ => rfl⟩); have Hz2 := Lib.hid ((hgr2.block (w.heap.size + 1 + 1) (by have := hb1.size; have := HsW.out; omega) (by have := HsW.out; simp; omega)).trans ((hb1.block _ (by have := HsW.out; omega)).trans Z.out)); have Hown2 := Lib.hid (hown1.setF x hk); have Hgr2 := Lib.hid hgr2; clear hgr2 hgr1 hat1) | (refine wpList_store_row rfl 45 _ _ rfl (w.heap.size + 1 + 1) 45 _ _ rfl rfl Hz2.out (by kernel_rfl) rfl (by simp [Value.oneCell']) ?_))
  refine bodyPost_ret (results_c rfl rfl (run_ld_block (setRow_heap _ _ _ _ _ _ Hz2.out) Try.underlying45 rfl (by kernel_rfl))) rfl ?_
  have hbf : Below w.heap.size w (((w1.setCell ⟨g, k * 2, none⟩ (.slice x.A1 x.n1 x.c1)).setCell ⟨g, k * 2 + 1, none⟩ (.slice x.A2 x.n2 x.c2)).setRow (w.heap.size + 1 + 1) #[.slice (some ⟨g, 0, none⟩) n c1]) :=
    Below.setRow (Below.grow (Below.ext hbW hb1) Hgr2.out (by have := HsW.out; omega)) (by omega) _
  refine ⟨_, _, rfl, ⟨xs.set k x, Recs.mono (OwnR.recs (OwnR.kept (row := some (w.heap.size + 1 + 1)) Hown2.out ⟨rfl, rfl, rfl, by simp, fun j hj hne => setRow_other _ _ _ _ (by simpa using hne)⟩ (.inr (fun e => ?_)))) (fun _ _ h => .inr (by have := h.1; have := HsW.out; omega)), by simp [hxl], fun i y h hy hh => ?_⟩, hbf⟩
  · have := (World.ownsRow.lt Hown2.out _ e).1
    have := HsW.out
    omega
  · by_cases hik : k = i
    · subst hik
      rw [List.getElem?_set_self (by omega)] at hy hh
      cases hy
      cases hh
      exact (hf.ext hbf).mono (fun _ _ h => .inl h)
    · rw [List.getElem?_set_ne hik] at hy hh
      exact ((hok i y h hy hh).ext hbf).mono (fun _ _ h => .inl h)

set_option maxHeartbeats 2000000 in
theorem all_any (x : FV) (f : Fil) (S : Nat → Prop) (w : World) (hx : FOk S w x f) (hlen : x.n1 + x.n2 ≤ 10000000) :
    Calls Try.prog 93 #[.agg #[.slice x.A1 x.n1 x.c1, .slice x.A2 x.n2 x.c2]] w fun e w' => ∃ A' c', e = .returned (.slice A' (x.n1 + x.n2) c') ∧ OwnR encB 1 w' w.heap.size 5 (.slice A' (x.n1 + x.n2) c') (f.s ++ f.p) ∧ Below w.heap.size w w' := by
  obtain ⟨W, hW⟩ : ∃ W, W = w.alloc (.cells #[.slice x.A1 x.n1 x.c1, .slice x.A2 x.n2 x.c2] 42) := ⟨_, rfl⟩
  have haW : Below w.heap.size w W := by rw [hW]; exact (Below.refl _ _).alloc (Nat.le_refl _) _
  have rW : W.heap[w.heap.size]? = some (.cells #[.slice x.A1 x.n1 x.c1, .slice x.A2 x.n2 x.c2] 42 (0, 0)) := by rw [hW]; exact heap_alloc_new _ _
  have hsW : w.heap.size < W.heap.size := (Array.getElem?_eq_some_iff.1 rW).1
  have RW := Lib.hid rW
  have ag30 : ∀ w : World, (isAgg 22).run Try.prog w = .ok false w := fun w => by simp [isAgg, run_underlying Try.underlying22]
  have A30 := Lib.hid ag30
  have hsl := hx.s.len.1
  have HSL := Lib.hid hsl
  have hcell : ∀ (w' : World) (o : Nat) (v : Value), Below W.heap.size W w' → #[Value.slice x.A1 x.n1 x.c1, Value.slice x.A2 x.n2 x.c2][o]? = some v → w'.cell? ⟨w.heap.size, o, none⟩ = some v := fun w' o v h hv => by rw [cell_of_row _ _ _ _ _ _ ((h.block _ hsW).trans RW.out)]; exact hv
  have HC := Lib.hid hcell
  clear rW ag30 hsl hcell
  go_enter Try.func93, Try.ntmps93
  go_wp2_with fail
  rw [← hW]
  clear hW
  refine wp_region_lexL (Below W.heap.size W) (by kernel_rfl) (by kernel_rfl) ((Below.refl _ _).drew) ?_
  repeat (first | (refine lexL_q0 rfl ?_; go_big_quiet_step (fail); refine wpQuiet_nil ?_) | (refine lexL_skip0 rfl rfl ?_; simp only [Act.put, List.setIfInBounds_toArray, List.set_cons_succ, List.set_cons_zero]))
  refine lexL_ld (⟨w.heap.size, 0, none⟩) (.slice x.A1 x.n1 x.c1) rfl rfl rfl (fun w' hS => run_ld1 (A30.out _) (HC.out w' 0 _ hS rfl)) ?_
  simp only [Act.put, List.setIfInBounds_toArray, List.set_cons_succ, List.set_cons_zero]
  repeat (first | (refine lexL_q0 rfl ?_; go_big_quiet_step (fail); refine wpQuiet_nil ?_) | (refine lexL_skip0 rfl rfl ?_; simp only [Act.put, List.setIfInBounds_toArray, List.set_cons_succ, List.set_cons_zero]))
  have hx3 := (hx.s.ext haW).ext (w' := W.drew) (Below.refl _ _).drew
  refine lexL_e rfl ?_
  refine wpList_appR encB_len encB_one (.int .u8 0) 1 _ _ 22 5 W.heap.size [] f.s x.A1 x.n1 x.c1 (.slice none 0 0) x.n1 rfl rfl Try.underlying22 infoB rfl (by omega) rfl rfl (OwnR.nil_ _ _ _) hx3 (by simp) (by simp; omega) (by simp; omega) (Nat.le_refl _) ?_
  intro A5 c5 w5 hown5 hgr5 hat5 hc51 hc52
  have b5 : Below W.heap.size W w5 := ⟨hgr5.os, hgr5.tape, hgr5.output, hgr5.size, fun i hi => hgr5.block i hi (by simp [Value.ownBlock])⟩
  rw [List.nil_append] at hown5
  clear hgr5 hat5
  refine lexL_go b5 ?_
  simp only [Act.put, List.setIfInBounds_toArray, List.set_cons_succ, List.set_cons_zero]
  repeat (first | (refine lexL_q0 rfl ?_; go_big_quiet_step (fail); refine wpQuiet_nil ?_) | (refine lexL_skip0 rfl rfl ?_; simp only [Act.put, List.setIfInBounds_toArray, List.set_cons_succ, List.set_cons_zero]))
  refine lexL_ld (⟨w.heap.size, 1, none⟩) (.slice x.A2 x.n2 x.c2) rfl rfl rfl (fun w' hS => run_ld1 (A30.out _) (HC.out w' 1 _ hS rfl)) ?_
  simp only [Act.put, List.setIfInBounds_toArray, List.set_cons_succ, List.set_cons_zero]
  repeat (first | (refine lexL_q0 rfl ?_; go_big_quiet_step (fail); refine wpQuiet_nil ?_) | (refine lexL_skip0 rfl rfl ?_; simp only [Act.put, List.setIfInBounds_toArray, List.set_cons_succ, List.set_cons_zero]))
  refine lexL_e rfl ?_
  refine wpList_appR encB_len encB_one (.int .u8 0) 1 _ _ 22 5 W.heap.size f.s f.p x.A2 x.n2 x.c2 (.slice A5 x.n1 c5) (x.n1 + x.n2) rfl rfl Try.underlying22 infoB rfl (by omega) rfl rfl hown5 ((hx.p.ext haW).ext b5) (by rw [HSL.out]) (by have := HSL.out; omega) (by have := HSL.out; omega) b5.size ?_
  intro A7 c7 w7 hown7 hgr7 hat7 hc71 hc72
  have b7 : Below W.heap.size W w7 := hown5.grow hgr7 b5 (Nat.le_refl _) b5.size
  refine lexL_go b7 ?_
  simp only [Act.put, List.setIfInBounds_toArray, List.set_cons_succ, List.set_cons_zero]
  repeat (first | (refine lexL_q0 rfl ?_; go_big_quiet_step (fail); refine wpQuiet_nil ?_) | (refine lexL_skip0 rfl rfl ?_; simp only [Act.put, List.setIfInBounds_toArray, List.set_cons_succ, List.set_cons_zero]))
  refine lexL_nil ?_
  go_wp2_with fail
  go_ret
  exact ⟨A7, c7, rfl, hown7.weak haW.size, Below.ext haW b7⟩
end Go.Proofs.Ytjcfnpmgklliiaa

namespace Go.Proofs.Ytjcfnpmgklliiaa
open Go.RowKit
set_option maxRecDepth 100000
set_option linter.unusedVariables false

set_option maxHeartbeats 2000000 in
theorem refread_ok (A : Option Addr) (n c : Nat) (fs : List Fil) (S : Nat → Prop) (w : World) (hD : Dsk S w (.slice A n c) fs) (hn : n ≤ 1000) (k : Nat) (f : Fil) (hf : fs[k]? = some f) (hlen : f.s.length + f.p.length ≤ 10000000) :
    Calls Try.prog 63 #[.agg #[.slice A n c], .int .i64 (k : Int)] w fun e w' => ∃ A' c', e = .returned (.tuple #[.slice A' (f.s.length + f.p.length) c', .int .i64 0]) ∧ OwnR encB 1 w' w.heap.size 5 (.slice A' (f.s.length + f.p.length) c') (f.s ++ f.p) ∧ Below w.heap.size w w' := by
  have hk : k < n := by have := (List.getElem?_eq_some_iff.1 hf).1; have := hD.len; omega
  obtain ⟨b, off, x, f', rfl, hb, hf', hx, c0, c1⟩ := hD.at_ hk
  obtain rfl : f' = f := by rw [hf] at hf'; cases hf'; rfl
  have e1 := Lib.hid hx.s.len.1
  have e2 := Lib.hid hx.p.len.1
  have hxs : x.n1 + x.n2 ≤ 10000000 := by have := e1.out; have := e2.out; omega
  clear hf hf'
  obtain ⟨W, hW⟩ : ∃ W, W = w.alloc (.cells #[.slice (some ⟨b, off, none⟩) n c] 45) := ⟨_, rfl⟩
  have ha : Below w.heap.size w W := by rw [hW]; exact (Below.refl _ w).alloc (Nat.le_refl _) _
  have q0 : W.cell? ⟨w.heap.size, 0, none⟩ = some (.slice (some ⟨b, off, none⟩) n c) := by rw [hW]; go_simp
  have Q0 := Lib.hid q0
  clear q0
  go_enter Try.func63, Try.ntmps63
  go_wp2_with fail
  rw [← hW]
  clear hW
  refine (has_yes _ n c k W hk hn).mono ?_
  rintro e w1 ⟨rfl, hb1⟩
  have q0' := (hb1.cell (p := ⟨w.heap.size, 0, none⟩) (block_lt_of_cell Q0.out)).trans Q0.out
  have hbb := Below.ext ha hb1
  have c0' := (hbb.cell (p := ⟨b, off + k * 2, none⟩) hb).trans c0
  have c1' := (hbb.cell (p := ⟨b, off + k * 2 + 1, none⟩) hb).trans c1
  clear c0 c1
  go_wp2_with fail
  refine (all_any x f' _ w1 (hx.ext hbb) hxs).mono ?_
  rintro e w2 ⟨A', c', rfl, hown, hb2⟩
  go_wp2
  go_ret2
  refine ⟨A', c', by rw [e1.out, e2.out]; rfl, ?_, Below.ext hbb hb2⟩
  rw [e1.out, e2.out]
  exact hown.weak hbb.size

set_option maxHeartbeats 2000000 in
theorem refappend_ok (A : Option Addr) (n c : Nat) (fs : List Fil) (S : Nat → Prop) (w : World) (hD : Dsk S w (.slice A n c) fs) (hn : n ≤ 1000) (k : Nat) (f : Fil) (hf : fs[k]? = some f) (Ab : Option Addr) (nb cb : Nat) (lb : List UInt8) (hb : By S w (.slice Ab nb cb) lb) (hlen : f.s.length + f.p.length + nb ≤ 65536) :
    Calls Try.prog 66 #[.agg #[.slice A n c], .int .i64 (k : Int), .slice Ab nb cb] w fun e w' => ∃ A' c', e = .returned (.tuple #[.agg #[.slice A' n c'], .int .i64 0]) ∧ Dsk (fun b => S b ∨ w.heap.size ≤ b) w' (.slice A' n c') (fs.set k ⟨f.s, f.p ++ lb⟩) ∧ Below w.heap.size w w' := by
  have hk : k < n := by have := (List.getElem?_eq_some_iff.1 hf).1; have := hD.len; omega
  have hD0 := hD.mono (S' := fun b => S b ∧ b < w.heap.size) (fun b hb hs => ⟨hs, hb⟩)
  obtain ⟨b, off, x, f', rfl, hbl, hf', hx, c0, c1⟩ := hD0.at_ hk
  obtain rfl : f' = f := by rw [hf] at hf'; cases hf'; rfl
  have e1 := Lib.hid hx.s.len.1
  have e2 := Lib.hid hx.p.len.1
  have hxs : x.n1 + x.n2 + nb ≤ 65536 := by have := e1.out; have := e2.out; omega
  clear hf hf'
  obtain ⟨W, hW, hbW, hsW, hw0, hw1⟩ := two_boxes w (.slice (some ⟨b, off, none⟩) n c)
  have HsW := Lib.hid hsW
  have d1 : decide (65536 < x.n1 + x.n2 + nb) = false := by simp; omega
  go_enter Try.func66, Try.ntmps66
  go_wp2_with fail
  rw [← hW]
  clear hW hsW
  refine (has_yes _ n c k W hk hn).mono ?_
  rintro e w1 ⟨rfl, hb1⟩
  have hbb := Below.ext hbW hb1
  have hsz1 := hb1.size
  have z0 := (hb1.block _ (by have := HsW.out; omega)).trans hw0
  have z1 := (hb1.block _ (by have := HsW.out; omega)).trans hw1
  have q0 : w1.cell? ⟨w.heap.size, 0, none⟩ = some (.slice (some ⟨b, off, none⟩) n c) := by rw [cell_of_row _ _ _ _ _ _ z0]; rfl
  have c0' := (hbb.cell (p := ⟨b, off + k * 2, none⟩) hbl).trans c0
  have c1' := (hbb.cell (p := ⟨b, off + k * 2 + 1, none⟩) hbl).trans c1
  have H0 := Lib.hid z0
  have H1 := Lib.hid z1
  clear hw0 hw1 z0 z1 c0 c1
  obtain ⟨W1, hW1⟩ : ∃ W1, W1 = w1.alloc (.cells #[.slice x.A1 x.n1 x.c1, .slice x.A2 x.n2 x.c2] 42) := ⟨_, rfl⟩
  have hbW1 : Below w1.heap.size w1 W1 := by rw [hW1]; exact (Below.refl _ _).alloc (Nat.le_refl _) _
  have hrow1 : W1.heap[w1.heap.size]? = some (.cells #[.slice x.A1 x.n1 x.c1, .slice x.A2 x.n2 x.c2] 42 (0, 0)) := by rw [hW1]; exact heap_alloc_new _ _
  have hs1 : W1.heap.size = w1.heap.size + 1 := by rw [hW1]; simp
  have b2 := Below.ext hbb hbW1
  have Hs1 := Lib.hid hs1
  have Hrow1 := Lib.hid hrow1
  have Q0 := Lib.hid q0
  clear hs1 hrow1
  go_wp2_with (first | (refine wpList_appR (o := ⟨some 33, _, _, _, _, _⟩) encB_len encB_one (.int .u8 0) 1 _ _ 22 5 W1.heap.size [] f'.p x.A2 x.n2 x.c2 (.slice none 0 0) x.n2 rfl rfl Try.underlying22 infoB rfl (by omega) rfl rfl (OwnR.nil_ _ _ _) (by rw [← hW1]; exact hx.p.ext b2) (by simp) (by simp; omega) (by simp; omega) (by rw [← hW1]; exact Nat.le_refl _) ?_; intro A5 c5 w5 hown5 hgr5 hat5 hc51 hc52; rw [← hW1] at hgr5; rw [List.nil_append] at hown5; have b5 : Below W1.heap.size W1 w5 := ⟨hgr5.os, hgr5.tape, hgr5.output, hgr5.size, fun i hi => hgr5.block i hi (by simp [Value.ownBlock])⟩; clear hgr5 hat5) | (refine wpList_stop 35 rfl ?_))
  refine ⟨?_⟩
  (refine wpList_appR (o := ⟨some 35, _, _, _, _, _⟩) encB_len encB_one (.int .u8 0) 1 _ _ 22 5 W1.heap.size f'.p lb Ab nb cb (.slice A5 x.n2 c5) (x.n2 + nb) rfl rfl Try.underlying22 infoB rfl (by omega) rfl rfl hown5 ((hb.ext b2).ext b5) (by rw [e2.out]) (by have := e2.out; omega) (by have := e2.out; omega) b5.size ?_; intro A3 c3 w3 hown3 hgr3 hat3 hc31 hc32; have hb3 : Below W1.heap.size W1 w3 := hown5.grow hgr3 b5 (Nat.le_refl _) b5.size; have hrow3 := (hb3.block w1.heap.size (by have := Hs1.out; omega)).trans Hrow1.out; have f0 : w3.cell? ⟨w1.heap.size, 0, none⟩ = some (.slice x.A1 x.n1 x.c1) := (by rw [cell_of_row _ _ _ _ _ _ hrow3]; rfl); have f1 : w3.cell? ⟨w1.heap.size, 1, none⟩ = some (.slice x.A2 x.n2 x.c2) := (by rw [cell_of_row _ _ _ _ _ _ hrow3]; rfl); have fz : w3.frozen? ⟨w1.heap.size, 1, none⟩ = false := frozen_of_row _ _ _ _ _ hrow3; have b13 : Below w1.heap.size w1 w3 := Below.ext hbW1 hb3; have q3 := (b13.cell (p := ⟨w.heap.size, 0, none⟩) (by have := HsW.out; show w.heap.size < _; omega)).trans Q0.out; have hsz3 := b13.size; clear hgr3 hat3 q0 c0' c1' hrow3)
  go_wp2_with fail
  have hg4 : w3.grownBy (w3.setCell ⟨w1.heap.size, 1, none⟩ (.slice A3 (x.n2 + nb) c3)) (some w1.heap.size) := grown_set ⟨rfl, rfl, rfl, Nat.le_refl _, fun _ _ _ => rfl⟩
  have B4 : Below w.heap.size w (w3.setCell ⟨w1.heap.size, 1, none⟩ (.slice A3 (x.n2 + nb) c3)) := Below.grow (Below.ext hbb b13) hg4 hbb.size
  have hown4 := hown3.kept hg4 (.inr (fun e => by have := (World.ownsRow.lt hown3 _ e).1; have := Hs1.out; omega))
  have z4 := ((hg4.block (w.heap.size + 1) (by have := HsW.out; omega) (by have := HsW.out; simp; omega)).trans (b13.block _ (by have := HsW.out; omega))).trans H1.out
  have hR4 : w.heap.size + 1 < (w3.setCell ⟨w1.heap.size, 1, none⟩ (.slice A3 (x.n2 + nb) c3)).heap.size := (Array.getElem?_eq_some_iff.1 z4).1
  generalize w3.setCell ⟨w1.heap.size, 1, none⟩ (.slice A3 (x.n2 + nb) c3) = w4 at *
  have hD4 : Dsk (fun b => (S b ∨ w.heap.size ≤ b) ∧ b ≠ w.heap.size + 1) w4 (.slice (some ⟨b, off, none⟩) n c) fs := (hD0.ext B4).mono (fun _ _ h => ⟨.inl h.1, by have := h.2; omega⟩)
  have hf4 : FOk (fun b => (S b ∨ w.heap.size ≤ b) ∧ b ≠ w.heap.size + 1) w4 ⟨x.A1, x.n1, x.c1, A3, x.n2 + nb, c3⟩ ⟨f'.s, f'.p ++ lb⟩ := ⟨(hx.s.ext B4).mono (fun _ _ h => ⟨.inl h.1, by have := h.2; omega⟩), hown4.recs.mono (fun _ _ h => ⟨.inr (by have := h.1; have := Hs1.out; have := HsW.out; omega), by have := h.1; have := Hs1.out; have := HsW.out; omega⟩)⟩
  refine (set_any _ n c fs _ _ hD4 hn k hk ⟨x.A1, x.n1, x.c1, A3, x.n2 + nb, c3⟩ ⟨f'.s, f'.p ++ lb⟩ hf4).mono ?_
  rintro e w5 ⟨A5, c5, rfl, hD5, hb5⟩
  have z5 := (hb5.block _ hR4).trans z4
  have Z5 := Lib.hid z5
  clear z5 z4
  go_wp2_with (refine wpList_store_row rfl 45 _ _ rfl (w.heap.size + 1) 45 _ _ rfl rfl Z5.out (by kernel_rfl) rfl (by simp [Value.oneCell']) ?_)
  refine bodyPost_ret (results_ct rfl rfl (run_ld_block (setRow_heap _ _ _ _ _ _ Z5.out) Try.underlying45 rfl (by kernel_rfl))) rfl ?_
  have hD6 := ((hD5.mono (S' := fun b => (S b ∨ w.heap.size ≤ b) ∧ b ≠ w.heap.size + 1) (fun b _ h => by rcases h with h | h; exact h; exact ⟨.inr (by omega), by omega⟩)).keep (fun b hb hs => setRow_other w5 (w.heap.size + 1) b #[.slice A5 n c5] hs.2)).mono (S' := fun b => S b ∨ w.heap.size ≤ b) (fun _ _ h => h.1)
  exact ⟨A5, c5, rfl, hD6, Below.setRow (Below.ext B4 hb5) (by omega) _⟩

set_option maxHeartbeats 2000000 in
theorem refsync_ok (A : Option Addr) (n c : Nat) (fs : List Fil) (S : Nat → Prop) (w : World) (hD : Dsk S w (.slice A n c) fs) (hn : n ≤ 1000) (k : Nat) (f : Fil) (hf : fs[k]? = some f) (hlen : f.s.length + f.p.length ≤ 10000000) :
    Calls Try.prog 101 #[.agg #[.slice A n c], .int .i64 (k : Int)] w fun e w' => ∃ A' c', e = .returned (.tuple #[.agg #[.slice A' n c'], .int .i64 0]) ∧ Dsk (fun b => S b ∨ w.heap.size ≤ b) w' (.slice A' n c') (fs.set k ⟨f.s ++ f.p, []⟩) ∧ Below w.heap.size w w' := by
  have hk : k < n := by have := (List.getElem?_eq_some_iff.1 hf).1; have := hD.len; omega
  have hD0 := hD.mono (S' := fun b => S b ∧ b < w.heap.size) (fun b hb hs => ⟨hs, hb⟩)
  obtain ⟨b, off, x, f', rfl, hbl, hf', hx, c0, c1⟩ := hD0.at_ hk
  obtain rfl : f' = f := by rw [hf] at hf'; cases hf'; rfl
  have e1 := Lib.hid hx.s.len.1
  have e2 := Lib.hid hx.p.len.1
  have hxs : x.n1 + x.n2 ≤ 10000000 := by have := e1.out; have := e2.out; omega
  clear hf hf'
  obtain ⟨W, hW, hbW, hsW, hw0, hw1⟩ := two_boxes w (.slice (some ⟨b, off, none⟩) n c)
  have HsW := Lib.hid hsW
  go_enter Try.func101, Try.ntmps101
  go_wp2_with fail
  rw [← hW]
  clear hW hsW
  refine (has_yes _ n c k W hk hn).mono ?_
  rintro e w1 ⟨rfl, hb1⟩
  have hbb := Below.ext hbW hb1
  have hsz1 := hb1.size
  have z0 := (hb1.block _ (by have := HsW.out; omega)).trans hw0
  have z1 := (hb1.block _ (by have := HsW.out; omega)).trans hw1
  have q0 : w1.cell? ⟨w.heap.size, 0, none⟩ = some (.slice (some ⟨b, off, none⟩) n c) := by rw [cell_of_row _ _ _ _ _ _ z0]; rfl
  have c0' := (hbb.cell (p := ⟨b, off + k * 2, none⟩) hbl).trans c0
  have c1' := (hbb.cell (p := ⟨b, off + k * 2 + 1, none⟩) hbl).trans c1
  have H0 := Lib.hid z0
  have Z0R := Lib.hid z0
  have H1 := Lib.hid z1
  clear hw0 hw1 z0 z1 c0 c1
  clear H0
  have H0 := Lib.hid q0
  have c0'' := Lib.hid c0'
  have c1'' := Lib.hid c1'
  have ag22 : ∀ w : World, (isAgg 43).run Try.prog w = .ok false w := fun w => by simp [isAgg, run_underlying Try.underlying43]
  have A22 := Lib.hid ag22
  have z0r : w1.heap[w.heap.size]? = some (.cells #[.slice (some ⟨b, off, none⟩) n c] 45 (0, 0)) := Z0R.out
  have HZ0 := Lib.hid z0r
  have hbl1 : b < w1.heap.size := block_lt_of_cell c0'
  have hbR : b ≠ w.heap.size + 1 := by omega
  clear ag22 z0r q0 c0' c1'
  go_wp2_with fail
  have hcl : ∀ (w' : World) (p : Addr), Keep (· ≠ w.heap.size + 1) w1 w' → p.block < w1.heap.size → p.block ≠ w.heap.size + 1 → w'.cell? p = w1.cell? p := fun w' p hS h1 h2 => World.cell?_of_block (hS p.block h1 h2)
  have HC := Lib.hid hcl
  clear hcl
  refine wp_region_lexL (fun w' => Below w.heap.size w w' ∧ Keep (· ≠ w.heap.size + 1) w1 w') (by kernel_rfl) (by kernel_rfl) (⟨hbb.drew, fun _ _ _ => rfl⟩) ?_
  repeat (first | (refine lexL_q0 rfl ?_; go_big_quiet_step (fail); refine wpQuiet_nil ?_) | (refine lexL_skip0 rfl rfl ?_; simp only [Act.put, List.setIfInBounds_toArray, List.set_cons_succ, List.set_cons_zero]))
  refine lexL_ld (⟨w.heap.size, 0, none⟩) (.agg #[.slice (some ⟨b, off, none⟩) n c]) rfl rfl rfl (fun w' hS => run_ld_block ((hS.2 _ (by have := HsW.out; omega) (by omega)).trans HZ0.out) Try.underlying45 rfl (by kernel_rfl)) ?_
  simp only [Act.put, List.setIfInBounds_toArray, List.set_cons_succ, List.set_cons_zero]
  repeat (first | (refine lexL_q0 rfl ?_; go_big_quiet_step (fail); refine wpQuiet_nil ?_) | (refine lexL_skip0 rfl rfl ?_; simp only [Act.put, List.setIfInBounds_toArray, List.set_cons_succ, List.set_cons_zero]))
  refine lexL_ld (⟨w.heap.size, 0, none⟩) (.slice (some ⟨b, off, none⟩) n c) rfl rfl rfl (fun w' hS => run_ld1 (A22.out _) ((HC.out w' ⟨w.heap.size, 0, none⟩ hS.2 (by have := HsW.out; show w.heap.size < _; omega) (by show w.heap.size ≠ _; omega)).trans H0.out)) ?_
  simp only [Act.put, List.setIfInBounds_toArray, List.set_cons_succ, List.set_cons_zero]
  repeat (first | (refine lexL_q0 rfl ?_; go_big_quiet_step (fail); refine wpQuiet_nil ?_) | (refine lexL_skip0 rfl rfl ?_; simp only [Act.put, List.setIfInBounds_toArray, List.set_cons_succ, List.set_cons_zero]))
  refine lexL_ld (⟨b, off + k * 2, none⟩) (.agg #[.slice x.A1 x.n1 x.c1, .slice x.A2 x.n2 x.c2]) rfl rfl rfl (fun w' hS => run_loadVar_mid (P := Try.prog) w' b (off + k * 2) 42 [.slice x.A1 x.n1 x.c1, .slice x.A2 x.n2 x.c2] _ (fun j v hj => by match j, hj with | 0, hj => (cases hj; exact (HC.out w' ⟨b, off + k * 2, none⟩ hS.2 hbl1 hbR).trans c0''.out) | 1, hj => (cases hj; exact (HC.out w' ⟨b, off + k * 2 + 1, none⟩ hS.2 hbl1 hbR).trans c1''.out) | j + 2, hj => simp at hj) Try.underlying42 rfl (by kernel_rfl)) ?_
  simp only [Act.put, List.setIfInBounds_toArray, List.set_cons_succ, List.set_cons_zero]
  repeat (first | (refine lexL_q0 rfl ?_; go_big_quiet_step (fail); refine wpQuiet_nil ?_) | (refine lexL_skip0 rfl rfl ?_; simp only [Act.put, List.setIfInBounds_toArray, List.set_cons_succ, List.set_cons_zero]))
  refine lexL_e rfl ?_
  go_wp2_with fail
  refine (all_any x f' _ w1.drew ((hx.ext hbb).ext (Below.refl _ _).drew) hxs).mono ?_
  rintro e w3 ⟨A3, c3, rfl, hown3, hb3⟩
  have b13 : Below w1.heap.size w1 w3 := Below.ext (Below.refl _ _).drew hb3
  go_wp2_with fail
  refine lexL_go ⟨Below.ext hbb b13, fun j hj _ => b13.block j hj⟩ ?_
  repeat (first | (refine lexL_q0 rfl ?_; go_big_quiet_step (fail); refine wpQuiet_nil ?_) | (refine lexL_skip0 rfl rfl ?_; simp only [Act.put, List.setIfInBounds_toArray, List.set_cons_succ, List.set_cons_zero]))
  refine lexL_e rfl ?_
  go_wp2_with fail
  refine lexL_go ⟨Below.ext hbb b13, fun j hj _ => b13.block j hj⟩ ?_
  repeat (first | (refine lexL_q0 rfl ?_; go_big_quiet_step (fail); refine wpQuiet_nil ?_) | (refine lexL_skip0 rfl rfl ?_; simp only [Act.put, List.setIfInBounds_toArray, List.set_cons_succ, List.set_cons_zero]))
  refine lexL_e rfl ?_
  go_wp2_with fail
  have B4 := Below.ext hbb b13
  have z4 := (b13.block _ (by have := HsW.out; omega)).trans H1.out
  have hR4 : w.heap.size + 1 < w3.heap.size := (Array.getElem?_eq_some_iff.1 z4).1
  have hD4 : Dsk (fun b => (S b ∧ b < w.heap.size) ∨ w.heap.size + 2 ≤ b) w3 (.slice (some ⟨b, off, none⟩) n c) fs := (hD0.ext B4).mono (fun _ _ h => .inl h)
  have hf4 : FOk (fun b => (S b ∧ b < w.heap.size) ∨ w.heap.size + 2 ≤ b) w3 ⟨A3, x.n1 + x.n2, c3, none, 0, 0⟩ ⟨f'.s ++ f'.p, []⟩ := ⟨hown3.recs.mono (fun _ _ h => .inr (by have h1 : w1.heap.size ≤ _ := h.1; have := HsW.out; omega)), Recs.nil_ _ _⟩
  refine (set_any _ n c fs _ _ hD4 hn k hk ⟨A3, x.n1 + x.n2, c3, none, 0, 0⟩ ⟨f'.s ++ f'.p, []⟩ hf4).mono ?_
  rintro e w5 ⟨A5, c5, rfl, hD5, hb5⟩
  have z5 := (hb5.block _ hR4).trans z4
  have Z5 := Lib.hid z5
  clear z5 z4
  have B5 : Below w.heap.size w w5 := Below.ext B4 hb5
  have b15 := Below.ext b13 hb5
  go_wp2_with fail
  refine lexL_go (⟨B5, fun j hj _ => b15.block j hj⟩) ?_
  repeat (first | (refine lexL_q0 rfl ?_; go_big_quiet_step (fail); refine wpQuiet_nil ?_) | (refine lexL_skip0 rfl rfl ?_; simp only [Act.put, List.setIfInBounds_toArray, List.set_cons_succ, List.set_cons_zero]))
  refine lexL_e rfl ?_
  refine wpList_store_row rfl 45 _ _ rfl (w.heap.size + 1) 45 _ _ rfl rfl Z5.out (by kernel_rfl) rfl (by simp [Value.oneCell']) ?_
  refine lexL_go ⟨Below.setRow B5 (by omega) _, fun j hj hne => (setRow_other _ _ _ _ hne).trans (b15.block j hj)⟩ ?_
  simp only [Act.put]
  repeat (first | (refine lexL_q0 rfl ?_; go_big_quiet_step (fail); refine wpQuiet_nil ?_) | (refine lexL_skip0 rfl rfl ?_; simp only [Act.put, List.setIfInBounds_toArray, List.set_cons_succ, List.set_cons_zero]))
  refine lexL_nil ?_
  go_wp2_with fail
  go_wp2
  refine bodyPost_ret (results_ct rfl rfl (run_ld_block (setRow_heap _ _ _ _ _ _ Z5.out) Try.underlying45 rfl (by kernel_rfl))) rfl ?_
  have hD6 := ((hD5.mono (S' := fun b => (S b ∨ w.heap.size ≤ b) ∧ b ≠ w.heap.size + 1) (fun b _ h => by
    rcases h with (h | h) | h
    · exact ⟨.inl h.1, by omega⟩
    · exact ⟨.inr (by omega), by omega⟩
    · exact ⟨.inr (by omega), by omega⟩)).keep (fun b hb hs => setRow_other w5 (w.heap.size + 1) b #[.slice A5 n c5] hs.2)).mono (S' := fun b => S b ∨ w.heap.size ≤ b) (fun _ _ h => h.1)
  exact ⟨A5, c5, rfl, hD6, Below.setRow B5 (by omega) _⟩

set_option maxHeartbeats 2000000 in
theorem refreplace_ok (A : Option Addr) (n c : Nat) (fs : List Fil) (S : Nat → Prop) (w : World) (hD : Dsk S w (.slice A n c) fs) (hn : n ≤ 1000) (k : Nat) (hk : k < n) (Ab : Option Addr) (nb cb : Nat) (lb : List UInt8) (Sb : Nat → Prop) (hb : By Sb w (.slice Ab nb cb) lb) (hlen : nb ≤ 65536) :
    Calls Try.prog 67 #[.agg #[.slice A n c], .int .i64 (k : Int), .slice Ab nb cb] w fun e w' => ∃ A' c', e = .returned (.tuple #[.agg #[.slice A' n c'], .int .i64 0]) ∧ Dsk (fun b => S b ∨ w.heap.size ≤ b) w' (.slice A' n c') (fs.set k ⟨lb, []⟩) ∧ Below w.heap.size w w' := by
  have hD0 := hD.mono (S' := fun b => S b ∧ b < w.heap.size) (fun b hb hs => ⟨hs, hb⟩)
  obtain ⟨W, hW, hbW, hsW, hw0, hw1⟩ := two_boxes w (.slice A n c)
  have HsW := Lib.hid hsW
  have d1 : decide (65536 < nb) = false := by simpa using hlen
  have d2 : decide ((65536 : Int) < (nb : Int)) = false := by simp; omega
  go_enter Try.func67, Try.ntmps67
  go_wp2_with fail
  rw [← hW]
  clear hW hsW
  refine (has_yes _ n c k W hk hn).mono ?_
  rintro e w1 ⟨rfl, hb1⟩
  have hbb := Below.ext hbW hb1
  have hsz1 := hb1.size
  have z0 := (hb1.block _ (by have := HsW.out; omega)).trans hw0
  have z1 := (hb1.block _ (by have := HsW.out; omega)).trans hw1
  have H0 := Lib.hid z0
  have H1 := Lib.hid z1
  clear hw0 hw1 z0 z1
  go_wp2_with fail
  refine wp_region_lexL (fun w' => Below w.heap.size w w' ∧ Keep (· ≠ w.heap.size + 1) w1 w') (by kernel_rfl) (by kernel_rfl) (⟨hbb.drew, fun _ _ _ => rfl⟩) ?_
  repeat (first | (refine lexL_q0 rfl ?_; go_big_quiet_step (fail); refine wpQuiet_nil ?_) | (refine lexL_skip0 rfl rfl ?_; simp only [Act.put, List.setIfInBounds_toArray, List.set_cons_succ, List.set_cons_zero]))
  refine lexL_ld (⟨w.heap.size, 0, none⟩) (.agg #[.slice A n c]) rfl rfl rfl (fun w' hS => run_ld_block ((hS.2 _ (by have := HsW.out; omega) (by omega)).trans H0.out) Try.underlying45 rfl (by kernel_rfl)) ?_
  simp only [Act.put, List.setIfInBounds_toArray, List.set_cons_succ, List.set_cons_zero]
  repeat (first | (refine lexL_q0 rfl ?_; go_big_quiet_step (fail); refine wpQuiet_nil ?_) | (refine lexL_skip0 rfl rfl ?_; simp only [Act.put, List.setIfInBounds_toArray, List.set_cons_succ, List.set_cons_zero]))
  refine lexL_e rfl ?_
  refine wpList_appR encB_len encB_one (.int .u8 0) 1 _ _ 22 5 w1.heap.size [] lb Ab nb cb (.slice none 0 0) nb rfl rfl Try.underlying22 infoB rfl (by omega) rfl rfl (OwnR.nil_ _ _ _) ((hb.ext hbb).ext (w' := w1.drew) (Below.refl _ _).drew) (by simp) (by simp; omega) (by simp; omega) (Nat.le_refl _) ?_
  intro A3 c3 w3 hown3 hgr3 hat3 hc31 hc32
  have b13 : Below w1.heap.size w1 w3 := ⟨hgr3.os, hgr3.tape, hgr3.output, hgr3.size, fun i hi => hgr3.block i hi (by simp [Value.ownBlock])⟩
  rw [List.nil_append] at hown3
  clear hgr3 hat3
  refine lexL_go ⟨Below.ext hbb b13, fun j hj _ => b13.block j hj⟩ ?_
  simp only [Act.put, List.setIfInBounds_toArray, List.set_cons_succ, List.set_cons_zero]
  repeat (first | (refine lexL_q0 rfl ?_; go_big_quiet_step (fail); refine wpQuiet_nil ?_) | (refine lexL_skip0 rfl rfl ?_; simp only [Act.put, List.setIfInBounds_toArray, List.set_cons_succ, List.set_cons_zero]))
  refine lexL_e rfl ?_
  go_wp2_with fail
  refine lexL_go ⟨Below.ext hbb b13, fun j hj _ => b13.block j hj⟩ ?_
  repeat (first | (refine lexL_q0 rfl ?_; go_big_quiet_step (fail); refine wpQuiet_nil ?_) | (refine lexL_skip0 rfl rfl ?_; simp only [Act.put, List.setIfInBounds_toArray, List.set_cons_succ, List.set_cons_zero]))
  refine lexL_e rfl ?_
  go_wp2_with fail
  have B4 := Below.ext hbb b13
  have z4 := (b13.block _ (by have := HsW.out; omega)).trans H1.out
  have hR4 : w.heap.size + 1 < w3.heap.size := (Array.getElem?_eq_some_iff.1 z4).1
  have hD4 : Dsk (fun b => (S b ∧ b < w.heap.size) ∨ w.heap.size + 2 ≤ b) w3 (.slice A n c) fs := (hD0.ext B4).mono (fun _ _ h => .inl h)
  have hf4 : FOk (fun b => (S b ∧ b < w.heap.size) ∨ w.heap.size + 2 ≤ b) w3 ⟨A3, nb, c3, none, 0, 0⟩ ⟨lb, []⟩ := ⟨hown3.recs.mono (fun _ _ h => .inr (by have h1 : w1.heap.size ≤ _ := h.1; have := HsW.out; omega)), Recs.nil_ _ _⟩
  refine (set_any _ n c fs _ _ hD4 hn k hk ⟨A3, nb, c3, none, 0, 0⟩ ⟨lb, []⟩ hf4).mono ?_
  rintro e w5 ⟨A5, c5, rfl, hD5, hb5⟩
  have z5 := (hb5.block _ hR4).trans z4
  have Z5 := Lib.hid z5
  clear z5 z4
  have B5 : Below w.heap.size w w5 := Below.ext B4 hb5
  have b15 := Below.ext b13 hb5
  go_wp2_with fail
  refine lexL_go (⟨B5, fun j hj _ => b15.block j hj⟩) ?_
  repeat (first | (refine lexL_q0 rfl ?_; go_big_quiet_step (fail); refine wpQuiet_nil ?_) | (refine lexL_skip0 rfl rfl ?_; simp only [Act.put, List.setIfInBounds_toArray, List.set_cons_succ, List.set_cons_zero]))
  refine lexL_e rfl ?_
  refine wpList_store_row rfl 45 _ _ rfl (w.heap.size + 1) 45 _ _ rfl rfl Z5.out (by kernel_rfl) rfl (by simp [Value.oneCell']) ?_
  refine lexL_go ⟨Below.setRow B5 (by omega) _, fun j hj hne => (setRow_other _ _ _ _ hne).trans (b15.block j hj)⟩ ?_
  simp only [Act.put]
  repeat (first | (refine lexL_q0 rfl ?_; go_big_quiet_step (fail); refine wpQuiet_nil ?_) | (refine lexL_skip0 rfl rfl ?_; simp only [Act.put, List.setIfInBounds_toArray, List.set_cons_succ, List.set_cons_zero]))
  refine lexL_nil ?_
  go_wp2_with fail
  go_wp2
  refine bodyPost_ret (results_ct rfl rfl (run_ld_block (setRow_heap _ _ _ _ _ _ Z5.out) Try.underlying45 rfl (by kernel_rfl))) rfl ?_
  have hD6 := ((hD5.mono (S' := fun b => (S b ∨ w.heap.size ≤ b) ∧ b ≠ w.heap.size + 1) (fun b _ h => by
    rcases h with (h | h) | h
    · exact ⟨.inl h.1, by omega⟩
    · exact ⟨.inr (by omega), by omega⟩
    · exact ⟨.inr (by omega), by omega⟩)).keep (fun b hb hs => setRow_other w5 (w.heap.size + 1) b #[.slice A5 n c5] hs.2)).mono (S' := fun b => S b ∨ w.heap.size ≤ b) (fun _ _ h => h.1)
  exact ⟨A5, c5, rfl, hD6, Below.setRow B5 (by omega) _⟩


set_option maxHeartbeats 1000000 in
theorem append_no (A : Option Addr) (n c : Nat) (k : Int) (hk : k < 0 ∨ (n : Int) ≤ k) (hn : n ≤ 1000) (Ab : Option Addr) (nb cb : Nat) (w : World) :
    Calls Try.prog 65 #[.agg #[.slice A n c], .int .i64 k, .slice Ab nb cb] w fun e w' => e = .returned (.tuple #[.agg #[.slice none 0 0], .int .i64 11]) ∧ Below w.heap.size w w' := by
  obtain ⟨W, hW, hbW, hsW, hw0, hw1⟩ := two_boxes w (.slice A n c)
  have HsW := Lib.hid hsW
  go_enter Try.func65, Try.ntmps65
  go_wp2_with fail
  rw [← hW]
  clear hW hsW
  refine (missing_yes _ n c k W hk hn).mono ?_
  rintro e w1 ⟨rfl, hb1⟩
  have hbb := Below.ext hbW hb1
  have Z5 := Lib.hid ((hb1.block _ (by have := HsW.out; omega)).trans hw1)
  clear hw0 hw1
  go_wp2_with (refine wpList_store_row rfl 45 _ _ rfl (w.heap.size + 1) 45 _ _ rfl rfl Z5.out (by kernel_rfl) rfl (by simp [Value.oneCell']) ?_)
  refine bodyPost_ret (results_ct rfl rfl (run_ld_block (setRow_heap _ _ _ _ _ _ Z5.out) Try.underlying45 rfl (by kernel_rfl))) rfl ?_
  exact ⟨rfl, Below.setRow hbb (by omega) _⟩

set_option maxHeartbeats 1000000 in
theorem replace_no (A : Option Addr) (n c : Nat) (k : Int) (hk : k < 0 ∨ (n : Int) ≤ k) (hn : n ≤ 1000) (Ab : Option Addr) (nb cb : Nat) (w : World) :
    Calls Try.prog 61 #[.agg #[.slice A n c], .int .i64 k, .slice Ab nb cb] w fun e w' => e = .returned (.tuple #[.agg #[.slice none 0 0], .int .i64 11]) ∧ Below w.heap.size w w' := by
  obtain ⟨W, hW, hbW, hsW, hw0, hw1⟩ := two_boxes w (.slice A n c)
  have HsW := Lib.hid hsW
  go_enter Try.func61, Try.ntmps61
  go_wp2_with fail
  rw [← hW]
  clear hW hsW
  refine (missing_yes _ n c k W hk hn).mono ?_
  rintro e w1 ⟨rfl, hb1⟩
  have hbb := Below.ext hbW hb1
  have Z5 := Lib.hid ((hb1.block _ (by have := HsW.out; omega)).trans hw1)
  clear hw0 hw1
  go_wp2_with (refine wpList_store_row rfl 45 _ _ rfl (w.heap.size + 1) 45 _ _ rfl rfl Z5.out (by kernel_rfl) rfl (by simp [Value.oneCell']) ?_)
  refine bodyPost_ret (results_ct rfl rfl (run_ld_block (setRow_heap _ _ _ _ _ _ Z5.out) Try.underlying45 rfl (by kernel_rfl))) rfl ?_
  exact ⟨rfl, Below.setRow hbb (by omega) _⟩

set_option maxHeartbeats 1000000 in
theorem sync_no (A : Option Addr) (n c : Nat) (k : Int) (hk : k < 0 ∨ (n : Int) ≤ k) (hn : n ≤ 1000) (w : World) :
    Calls Try.prog 31 #[.agg #[.slice A n c], .int .i64 k] w fun e w' => e = .returned (.tuple #[.agg #[.slice none 0 0], .int .i64 11]) ∧ Below w.heap.size w w' := by
  obtain ⟨W, hW, hbW, hsW, hw0, hw1⟩ := two_boxes w (.slice A n c)
  have HsW := Lib.hid hsW
  go_enter Try.func31, Try.ntmps31
  go_wp2_with fail
  rw [← hW]
  clear hW hsW
  refine (missing_yes _ n c k W hk hn).mono ?_
  rintro e w1 ⟨rfl, hb1⟩
  have hbb := Below.ext hbW hb1
  have Z5 := Lib.hid ((hb1.block _ (by have := HsW.out; omega)).trans hw1)
  clear hw0 hw1
  go_wp2_with (refine wpList_store_row rfl 45 _ _ rfl (w.heap.size + 1) 45 _ _ rfl rfl Z5.out (by kernel_rfl) rfl (by simp [Value.oneCell']) ?_)
  refine bodyPost_ret (results_ct rfl rfl (run_ld_block (setRow_heap _ _ _ _ _ _ Z5.out) Try.underlying45 rfl (by kernel_rfl))) rfl ?_
  exact ⟨rfl, Below.setRow hbb (by omega) _⟩

set_option maxHeartbeats 1000000 in
theorem read_no (A : Option Addr) (n c : Nat) (k : Int) (hk : k < 0 ∨ (n : Int) ≤ k) (hn : n ≤ 1000) (w : World) :
    Calls Try.prog 58 #[.agg #[.slice A n c], .int .i64 k] w fun e w' => e = .returned (.tuple #[.slice none 0 0, .int .i64 11]) ∧ Below w.heap.size w w' := by
  obtain ⟨W, hW⟩ : ∃ W, W = w.alloc (.cells #[.slice A n c] 45) := ⟨_, rfl⟩
  have ha : Below w.heap.size w W := by rw [hW]; exact (Below.refl _ w).alloc (Nat.le_refl _) _
  go_enter Try.func58, Try.ntmps58
  go_wp2_with fail
  rw [← hW]
  clear hW
  refine (missing_yes _ n c k W hk hn).mono ?_
  rintro e w1 ⟨rfl, hb1⟩
  go_wp2
  go_ret2
  exact ⟨rfl, Below.ext ha hb1⟩

set_option maxHeartbeats 1000000 in
theorem refappend_no (A : Option Addr) (n c : Nat) (k : Int) (hk : k < 0 ∨ (n : Int) ≤ k) (hn : n ≤ 1000) (Ab : Option Addr) (nb cb : Nat) (w : World) :
    Calls Try.prog 66 #[.agg #[.slice A n c], .int .i64 k, .slice Ab nb cb] w fun e w' => e = .returned (.tuple #[.agg #[.slice none 0 0], .int .i64 11]) ∧ Below w.heap.size w w' := by
  obtain ⟨W, hW, hbW, hsW, hw0, hw1⟩ := two_boxes w (.slice A n c)
  have HsW := Lib.hid hsW
  go_enter Try.func66, Try.ntmps66
  go_wp2_with fail
  rw [← hW]
  clear hW hsW
  refine (has_no _ n c k W hk hn).mono ?_
  rintro e w1 ⟨rfl, hb1⟩
  have hbb := Below.ext hbW hb1
  have Z5 := Lib.hid ((hb1.block _ (by have := HsW.out; omega)).trans hw1)
  clear hw0 hw1
  go_wp2_with (refine wpList_store_row rfl 45 _ _ rfl (w.heap.size + 1) 45 _ _ rfl rfl Z5.out (by kernel_rfl) rfl (by simp [Value.oneCell']) ?_)
  refine bodyPost_ret (results_ct rfl rfl (run_ld_block (setRow_heap _ _ _ _ _ _ Z5.out) Try.underlying45 rfl (by kernel_rfl))) rfl ?_
  exact ⟨rfl, Below.setRow hbb (by omega) _⟩

set_option maxHeartbeats 1000000 in
theorem refreplace_no (A : Option Addr) (n c : Nat) (k : Int) (hk : k < 0 ∨ (n : Int) ≤ k) (hn : n ≤ 1000) (Ab : Option Addr) (nb cb : Nat) (w : World) :
    Calls Try.prog 67 #[.agg #[.slice A n c], .int .i64 k, .slice Ab nb cb] w fun e w' => e = .returned (.tuple #[.agg #[.slice none 0 0], .int .i64 11]) ∧ Below w.heap.size w w' := by
  obtain ⟨W, hW, hbW, hsW, hw0, hw1⟩ := two_boxes w (.slice A n c)
  have HsW := Lib.hid hsW
  go_enter Try.func67, Try.ntmps67
  go_wp2_with fail
  rw [← hW]
  clear hW hsW
  refine (has_no _ n c k W hk hn).mono ?_
  rintro e w1 ⟨rfl, hb1⟩
  have hbb := Below.ext hbW hb1
  have Z5 := Lib.hid ((hb1.block _ (by have := HsW.out; omega)).trans hw1)
  clear hw0 hw1
  go_wp2_with (refine wpList_store_row rfl 45 _ _ rfl (w.heap.size + 1) 45 _ _ rfl rfl Z5.out (by kernel_rfl) rfl (by simp [Value.oneCell']) ?_)
  refine bodyPost_ret (results_ct rfl rfl (run_ld_block (setRow_heap _ _ _ _ _ _ Z5.out) Try.underlying45 rfl (by kernel_rfl))) rfl ?_
  exact ⟨rfl, Below.setRow hbb (by omega) _⟩

set_option maxHeartbeats 1000000 in
theorem refsync_no (A : Option Addr) (n c : Nat) (k : Int) (hk : k < 0 ∨ (n : Int) ≤ k) (hn : n ≤ 1000) (w : World) :
    Calls Try.prog 101 #[.agg #[.slice A n c], .int .i64 k] w fun e w' => e = .returned (.tuple #[.agg #[.slice none 0 0], .int .i64 11]) ∧ Below w.heap.size w w' := by
  obtain ⟨W, hW, hbW, hsW, hw0, hw1⟩ := two_boxes w (.slice A n c)
  have HsW := Lib.hid hsW
  go_enter Try.func101, Try.ntmps101
  go_wp2_with fail
  rw [← hW]
  clear hW hsW
  refine (has_no _ n c k W hk hn).mono ?_
  rintro e w1 ⟨rfl, hb1⟩
  have hbb := Below.ext hbW hb1
  have Z5 := Lib.hid ((hb1.block _ (by have := HsW.out; omega)).trans hw1)
  clear hw0 hw1
  go_wp2_with (refine wpList_store_row rfl 45 _ _ rfl (w.heap.size + 1) 45 _ _ rfl rfl Z5.out (by kernel_rfl) rfl (by simp [Value.oneCell']) ?_)
  refine bodyPost_ret (results_ct rfl rfl (run_ld_block (setRow_heap _ _ _ _ _ _ Z5.out) Try.underlying45 rfl (by kernel_rfl))) rfl ?_
  exact ⟨rfl, Below.setRow hbb (by omega) _⟩

set_option maxHeartbeats 1000000 in
theorem refread_no (A : Option Addr) (n c : Nat) (k : Int) (hk : k < 0 ∨ (n : Int) ≤ k) (hn : n ≤ 1000) (w : World) :
    Calls Try.prog 63 #[.agg #[.slice A n c], .int .i64 k] w fun e w' => e = .returned (.tuple #[.slice none 0 0, .int .i64 11]) ∧ Below w.heap.size w w' := by
  obtain ⟨W, hW⟩ : ∃ W, W = w.alloc (.cells #[.slice A n c] 45) := ⟨_, rfl⟩
  have ha : Below w.heap.size w W := by rw [hW]; exact (Below.refl _ w).alloc (Nat.le_refl _) _
  go_enter Try.func63, Try.ntmps63
  go_wp2_with fail
  rw [← hW]
  clear hW
  refine (has_no _ n c k W hk hn).mono ?_
  rintro e w1 ⟨rfl, hb1⟩
  go_wp2
  go_ret2
  exact ⟨rfl, Below.ext ha hb1⟩
end Go.Proofs.Ytjcfnpmgklliiaa
