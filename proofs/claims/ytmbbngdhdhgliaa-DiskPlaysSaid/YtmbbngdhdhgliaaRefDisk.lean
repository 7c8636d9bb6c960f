/-
  The document's disk: in, Torn, Crash, Same.
-/
import Derived.Test.YtmbbngdhdhgliaaDiskLaw
import Derived.Test.YtmbbngdhdhgliaaLexTail
namespace Go.Proofs.Ytmbbngdhdhgliaa
open Go.RowKit
set_option maxRecDepth 100000
set_option linter.unusedVariables false

set_option maxHeartbeats 400000 in
theorem in_any (A : Option Addr) (n c : Nat) (x : Int) (zs : List Int) (S : Nat → Prop) (w : World) (h : Recs encZ S w (.slice A n c) zs) (hn : n ≤ 100000000) :
    Calls Try.prog 36 #[.slice A n c, .int .i64 x] w fun e w' => e = .returned (.bool (decide (x ∈ zs))) ∧ w' = w := by
  have hl := h.len
  have HL := Lib.hid hl.1
  go_enter Try.func36, Try.ntmps36
  go_wp2
  go_loop [5] (fun v => ∃ k : Nat, v = .int .i64 k ∧ k ≤ n ∧ x ∉ zs.take k) (fun v => n - (intOf v).toNat)
  case atStart => exact ⟨0, rfl, by omega, by simp⟩
  case round =>
    obtain ⟨k, rfl, hk, hnot⟩ := hrel
    have HN := Lib.hid hnot
    clear hnot
    by_cases hlt : k < n
    · obtain ⟨b, off, z, rfl, _, hb, hz, hc⟩ := h.at_ encZ_len (j := k) (by have := HL.out; omega) (by omega)
      have qz := hc 0 _ rfl
      rw [Nat.mul_one, Nat.add_zero] at qz
      have htk : zs.take (k + 1) = zs.take k ++ [z] := by rw [List.take_add_one, hz]; rfl
      have hmem : z ∈ zs := List.mem_of_getElem? hz
      have HTK := Lib.hid htk
      have HM := Lib.hid hmem
      clear hc hz htk hmem
      by_cases hzx : z = x
      · have dz : (z == x) = true := by simpa using hzx
        have hd : decide (x ∈ zs) = true := by rw [← hzx]; simpa using HM.out
        go_wp2
        go_ret
        exact ⟨rfl, rfl⟩
      · have dz : (z == x) = false := by simpa using hzx
        have hn2 : x ∉ zs.take (k + 1) := by rw [HTK.out, List.mem_append, List.mem_singleton]; exact fun q => q.elim HN.out (fun e => hzx e.symm)
        have HN2 := Lib.hid hn2
        clear hn2
        go_wp2
        go_round
        case rel => exact ⟨k + 1, by go_num, by omega, HN2.out⟩
        case measure => simp [intOf]; omega
    · obtain rfl : k = n := by omega
      have hd : decide (x ∈ zs) = false := by
        have := HN.out
        rw [List.take_of_length_le (by have := HL.out; omega)] at this
        simpa using this
      go_wp2
      go_ret
      exact ⟨rfl, rfl⟩

/-- the first i bytes with lost sectors as zero -/
def mixL (q : List UInt8) (L : List Int) (i : Nat) : List UInt8 := q.mapIdx (fun j c => if j < i ∧ ((j / 16 : Nat) : Int) ∈ L then 0 else c)
theorem mixL_get (q : List UInt8) (L : List Int) (i j : Nat) : (mixL q L i)[j]? = q[j]?.map (fun c => if j < i ∧ ((j / 16 : Nat) : Int) ∈ L then 0 else c) := by simp [mixL]
theorem mixL_zero (q : List UInt8) (L : List Int) : mixL q L 0 = q := by
  apply List.ext_getElem?
  intro j
  rw [mixL_get]
  simp
theorem mixL_all (q : List UInt8) (L : List Int) : mixL q L q.length = maskL q L := by
  apply List.ext_getElem?
  intro j
  rw [mixL_get, maskL_get]
  by_cases h : j < q.length
  · simp [h]
  · rw [List.getElem?_eq_none (by omega)]; rfl
theorem mixL_yes (q : List UInt8) (L : List Int) (i : Nat) (h : ((i / 16 : Nat) : Int) ∈ L) : (mixL q L i).set i 0 = mixL q L (i + 1) := by
  apply List.ext_getElem?
  intro j
  rw [List.getElem?_set, mixL_get, mixL_get]
  by_cases hij : i = j
  · subst hij
    have hl : (mixL q L i).length = q.length := by simp [mixL]
    rw [if_pos rfl, hl]
    by_cases hlt : i < q.length
    · rw [if_pos hlt, List.getElem?_eq_getElem hlt, Option.map_some, if_pos ⟨by omega, h⟩]
    · rw [if_neg hlt, List.getElem?_eq_none (by omega)]; rfl
  · rw [if_neg hij]
    have : (j < i) ↔ (j < i + 1) := by omega
    simp only [this]
theorem mixL_no (q : List UInt8) (L : List Int) (i : Nat) (h : ¬ ((i / 16 : Nat) : Int) ∈ L) : mixL q L i = mixL q L (i + 1) := by
  apply List.ext_getElem?
  intro j
  rw [mixL_get, mixL_get]
  by_cases hij : i = j
  · subst hij
    simp only [h, and_false, if_false]
  · have : (j < i) ↔ (j < i + 1) := by omega
    simp only [this]

set_option maxHeartbeats 1000000 in
theorem torn_any (A : Option Addr) (n c : Nat) (p : List UInt8) (S : Nat → Prop) (keep : Int) (At : Option Addr) (nt ct : Nat) (lost : List Int) (St : Nat → Prop) (w : World) (hp : By S w (.slice A n c) p) (hT : Recs encZ St w (.slice At nt ct) lost) (hn : n ≤ 100000000) (hnt : nt ≤ 100000000) :
    Calls Try.prog 26 #[.slice A n c, .agg #[.int .i64 keep, .slice At nt ct]] w fun e w' => ∃ A' c', e = .returned (.slice A' (keepN p keep) c') ∧ OwnR encB 1 w' w.heap.size 5 (.slice A' (keepN p keep) c') (tornL p keep lost) ∧ Below w.heap.size w w' := by
  have hl := hp.len
  have hkn := keepN_le p keep
  have hN : min (max keep 0) (n : Int) = (keepN p keep : Int) := by rw [← hl.1]; unfold keepN; omega
  have hmax := fun w => run_max2 (P := Try.prog) w #[3, 3] 3 keep 0
  have hmin := fun w => run_min2 (P := Try.prog) w #[3, 3] 3 (max keep 0) (n : Int)
  rw [hN] at hmin
  have hq : mixL (p.take (keepN p keep)) lost (keepN p keep) = tornL p keep lost := by
    have := mixL_all (p.take (keepN p keep)) lost
    rw [List.length_take, Nat.min_eq_left hkn] at this
    rw [this]; rfl
  have HQ := Lib.hid hq
  have hNn : keepN p keep ≤ n := by omega
  have hpt := hp.take_ encB_len (j := keepN p keep) hNn
  have HL := Lib.hid hl.1
  have hl2 := hl.2
  clear hN hq hkn hl
  generalize keepN p keep = N at *
  have hqlen : (p.take N).length = N := by rw [List.length_take, HL.out]; omega
  have HQL := Lib.hid hqlen
  generalize p.take N = q at *
  have ha : Below w.heap.size w (w.alloc (.cells #[.int .i64 keep, .slice At nt ct] 39)) := (Below.refl _ _).alloc (Nat.le_refl _) _
  obtain ⟨W, hW⟩ : ∃ W, W = w.alloc (.cells #[.int .i64 keep, .slice At nt ct] 39) := ⟨_, rfl⟩
  have hrow : W.heap[w.heap.size]? = some (.cells #[.int .i64 keep, .slice At nt ct] 39 (0, 0)) := by rw [hW]; exact heap_alloc_new _ _
  have hsW : W.heap.size = w.heap.size + 1 := by rw [hW]; simp
  rw [← hW] at ha
  have HR := Lib.hid hrow
  clear hqlen hrow
  go_enter Try.func26, Try.ntmps26
  go_wp2_with (refine wpList_appR (o := ⟨some 17, _, _, _, _, _⟩) encB_len encB_one (.int .u8 0) 1 _ _ 30 5 (w.heap.size + 1) [] q A N c (.slice none 0 0) N rfl rfl Try.underlying30 infoB rfl (by omega) rfl rfl (OwnR.nil_ _ _ _) (D := S) (by rw [← hW]; exact hpt.ext ha) (by simp) (by simp; omega) (by simp; omega) (by simp) ?_; intro A5 c5 w5 hown5 hgr5 hat5 hc51 hc52)
  rw [← hW] at hgr5
  clear hmax hmin hW
  have b5 : Below W.heap.size W w5 := ⟨hgr5.os, hgr5.tape, hgr5.output, hgr5.size, fun i hi => hgr5.block i hi (by simp [Value.ownBlock])⟩
  have hown0 : OwnR encB 1 w5 (w.heap.size + 1) 5 (.slice A5 N c5) (mixL q lost 0) := by rw [mixL_zero]; simpa using hown5
  have bw5 := Below.ext ha b5
  have hr5 := (b5.block w.heap.size (by omega)).trans HR.out
  have hT5 := (hT.mono (S' := (· < w.heap.size)) (fun b hb _ => hb)).ext bw5
  have HR5 := Lib.hid hr5
  have s5 := bw5.size
  clear hr5 hown5 hgr5 hat5 hpt
  go_loopw [7] (fun i wr => ∃ j : Nat, i = .int .i64 j ∧ j ≤ N ∧ OwnR encB 1 wr (w.heap.size + 1) 5 (.slice A5 N c5) (mixL q lost j) ∧ Below (w.heap.size + 1) w5 wr) (fun i _ => N - (intOf i).toNat)
  case atStart => exact ⟨0, rfl, by omega, hown0, Below.refl _ _⟩
  case round =>
    clear hown0
    obtain ⟨j, rfl, hj, hown, hbr⟩ := hrel
    by_cases hlt : j < N
    · have dj : decide (j < N) = true := by simpa using hlt
      have hmix : (mixL q lost j).length = N := hown.len.1
      obtain ⟨g, rfl, hg1, hg2⟩ := hown.some_ (by omega)
      obtain ⟨⟨u0, hu0⟩, hf0⟩ := hown.cellB hlt
      have hrr := (hbr.block w.heap.size (by omega)).trans HR5.out
      have q1 : wr.cell? ⟨w.heap.size, 1, none⟩ = some (.slice At nt ct) := by rw [cell_of_row _ _ _ _ _ _ hrr]; rfl
      have hTr := hT5.keep (w' := wr) (fun b _ h => hbr.block b (by omega))
      have hx : ((j : Int) / 16) = ((j / 16 : Nat) : Int) := by omega
      have hin := in_any At nt ct ((j : Int) / 16) lost _ wr hTr hnt
      have Hin := Lib.hid hin
      clear hin hrr hmix
      by_cases hm : ((j / 16 : Nat) : Int) ∈ lost
      · have hd : decide (((j : Int) / 16) ∈ lost) = true := by rw [hx]; simpa using hm
        have hset := hown.setB j 0
        rw [mixL_yes _ _ _ hm] at hset
        have HS := Lib.hid hset
        have hbs := hbr.setCell (p := ⟨g, j, none⟩) (by show w.heap.size + 1 ≤ g; omega) (.int .u8 0)
        clear hset hx
        go_wp2_with fail
        refine Hin.out.mono ?_
        rintro e w7 ⟨rfl, rfl⟩
        rw [hd]
        go_wp2
        go_roundw
        case rel => exact ⟨j + 1, by go_num, by omega, HS.out, hbs⟩
        case measure => simp [intOf]; omega
      · have hd : decide (((j : Int) / 16) ∈ lost) = false := by rw [hx]; simpa using hm
        rw [mixL_no _ _ _ hm] at hown
        clear hx
        go_wp2_with fail
        refine Hin.out.mono ?_
        rintro e w7 ⟨rfl, rfl⟩
        rw [hd]
        go_wp2
        go_roundw
        case rel => exact ⟨j + 1, by go_num, by omega, hown, hbr⟩
        case measure => simp [intOf]; omega
    · obtain rfl : j = N := by omega
      rw [HQ.out] at hown
      go_wp2
      go_ret
      exact ⟨A5, c5, rfl, hown.weak (by omega), bw5.trans (hbr.mono (by omega))⟩
end Go.Proofs.Ytmbbngdhdhgliaa
