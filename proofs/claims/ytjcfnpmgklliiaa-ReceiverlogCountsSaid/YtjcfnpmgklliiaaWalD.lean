/-
  Whole of the document; Open of package wal and of the document.
-/
import Derived.Test.YtjcfnpmgklliiaaWalC
namespace Go.Proofs.Ytjcfnpmgklliiaa
open Go.RowKit
set_option maxRecDepth 100000
set_option linter.unusedVariables false
set_option linter.unusedSimpArgs false

theorem results_tct {P : Program} {fn : Func} {tmps : Array Value} {w : World} {a u v : Tmp} {t : TypeId} {A : Addr} {x : Value} (h : fn.results = #[.tmp u, .cell a t, .tmp v]) (ha : tmps.getD a undef = .pointer (some A)) (hl : (loadVar t A).run P w = .ok x w) : (results fn tmps).run P w = .ok (.tuple #[tmps.getD u undef, x, tmps.getD v undef]) w := by
  have ha' : tmps[a]?.getD undef = .pointer (some A) := by simpa using ha
  simp [results, h, asAddr, ha', hl]
theorem Lists.sl {S : Nat → Prop} {w : World} {v : Value} {ll : List (List UInt8)} (h : Lists S w v ll) : ∃ A c, v = .slice A ll.length c ∧ ll.length ≤ c ∧ c ≤ 9223372036854775807 := by
  obtain ⟨A, c, vs, rfl, h1, h2, _⟩ := h
  exact ⟨A, c, rfl, h1, by unfold maxLen at h2; omega⟩
theorem body_small {b : List UInt8} {ps : List (Nat × Nat)} {e : Nat} (h : Scans b 0 ps e) : ∀ li ∈ ps.map (bodyL b), li.length ≤ 4096 := by
  intro li hli
  obtain ⟨p, hp, rfl⟩ := List.mem_map.1 hli
  have := (scans_bytes h (by omega)).2.2.2 p hp
  unfold bodyL
  rw [List.length_take]
  omega

theorem cell_ext {w w' : World} {b o : Nat} (h : Below w.heap.size w w') (hb : b < w.heap.size) : w'.cell? ⟨b, o, none⟩ = w.cell? ⟨b, o, none⟩ := by
  unfold World.cell?
  rw [h.block b hb]

set_option maxHeartbeats 2000000 in
theorem refwhole_any (v : Value) (b : List UInt8) (S : Nat → Prop) (w : World) (hv : Bytes S w v b) (hb : b.length ≤ 100000) (l : List Dt) (hW : WholeR b l) :
    Calls Try.prog 64 #[v] w fun e w' => ∃ A' c', e = .returned (.slice A' l.length c') ∧ OwnR encDt 9 w' w.heap.size 38 (.slice A' l.length c') l ∧ Below w.heap.size w w' := by
  obtain ⟨ps, en, hs, rfl⟩ := hW
  have HSM := Lib.hid (body_small hs)
  have hpl : ps.length ≤ 100000 := by have := (hs.len (by omega)); omega
  obtain ⟨ll, hll⟩ : ∃ ll, ps.map (bodyL b) = ll := ⟨_, rfl⟩
  rw [hll] at HSM ⊢
  obtain ⟨n, hn⟩ : ∃ n, ll.length = n := ⟨_, rfl⟩
  have hn2 : n ≤ 100000 := by rw [← hn, ← hll, List.length_map]; exact hpl
  have HLL := Lib.hid hll
  have HN := Lib.hid hn
  clear hll hn hpl
  go_enter Try.func64, Try.ntmps64
  go_wp2_with fail
  refine (refscan_any v b S w hv (by omega) ps en hs).mono ?_
  rintro e w1 ⟨v1, rfl, hLs, hb1⟩
  rw [HLL.out] at hLs
  obtain ⟨A1, c1, rfl, hc1, hc2⟩ := hLs.sl
  rw [HN.out] at hLs hc1 ⊢
  clear hs
  go_wp2
  go_loopw [3, 6, 7, 8, 9] (fun v i _ _ _ wr => ∃ (k : Nat) (A' : Option Addr) (c' : Nat), k ≤ n ∧ i = .int .i64 k ∧ v = .slice A' k c' ∧ OwnR encDt 9 wr w1.heap.size 38 (.slice A' k c') (wholeB (ll.take k)) ∧ Below w1.heap.size w1 wr) (fun _ i _ _ _ _ => n - (intOf i).toNat)
  case atStart => exact ⟨0, none, 0, by omega, rfl, rfl, OwnR.nil_ _ _ _, Below.refl _ _⟩
  case round =>
    obtain ⟨k, A', c', hk, rfl, rfl, hown, hbr⟩ := hrel
    have hsz1 := hb1.size
    by_cases hlt : k < n
    · skip
      obtain ⟨b0, off, x, li, rfl, _, hbl, hli, hcx, hbx⟩ := (hLs.ext hbr).at_ hlt
      obtain ⟨Ax, cx, rfl⟩ := byt_slice hbx
      have hli4 := HSM.out li (List.mem_of_getElem? hli)
      have HLI := Lib.hid hli
      clear hli
      obtain ⟨m, hm⟩ : ∃ m, li.length = m := ⟨_, rfl⟩
      rw [hm] at hbx hcx hli4
      have HM := Lib.hid hm
      clear hm
      rcases det_cases li with ⟨d, hp, hd⟩ | ⟨hp, d, q, x, hd, hqx⟩
      · rw [HM.out] at hd
        have HD := Lib.hid hd
        have HP := Lib.hid hp
        clear hd hp
        go_wp2_with fail
        refine (refDet_any Ax m cx 0 li _ wr hbx (by omega)).mono ?_
        rintro e w3 ⟨hr, hb3⟩
        obtain rfl := HD.out _ _ hr
        clear hr
        have hs3 := hb3.size
        obtain ⟨W5, hW5, bW5, sW5, rW5⟩ := newD w3 #[Value.int .i64 d.proc, Value.int .i64 d.index, Value.int .i64 d.ev.k0, Value.int .i64 d.ev.k1, Value.int .i64 d.ev.k2, Value.int .i64 d.ev.k3, Value.int .i64 d.ev.k4, Value.int .i64 d.ev.k5, Value.int .i64 d.ev.k6] 38
        have cx5 : W5.cell? ⟨b0, off + k, none⟩ = some (.slice Ax m cx) := by
          rw [cell_ext (Below.ext hb3 bW5) hbl]; exact hcx
        rw [hW5] at cx5
        have R5 := Lib.hid rW5
        have S5 := Lib.hid sW5
        clear rW5 hcx sW5
        go_upto_region 8 with (refine wpList_store_new rfl 38 _ _ rfl 38 _ #[Value.int .i64 d.proc, Value.int .i64 d.index, Value.int .i64 d.ev.k0, Value.int .i64 d.ev.k1, Value.int .i64 d.ev.k2, Value.int .i64 d.ev.k3, Value.int .i64 d.ev.k4, Value.int .i64 d.ev.k5, Value.int .i64 d.ev.k6] rfl rfl (by kernel_rfl) rfl (by simp [Value.oneCell']) ?_)
        rw [← hW5]
        clear hW5 cx5
        have b35 := Below.ext hb3 bW5
        have hown5 := hown.ext b35
        have hol := Lib.hid hown5.len.1
        have hsr := hbr.size
        have ha : Below W5.heap.size W5 (W5.alloc (.cells #[Value.int .i64 d.proc, Value.int .i64 d.index, Value.int .i64 d.ev.k0, Value.int .i64 d.ev.k1, Value.int .i64 d.ev.k2, Value.int .i64 d.ev.k3, Value.int .i64 d.ev.k4, Value.int .i64 d.ev.k5, Value.int .i64 d.ev.k6] 38)) := (Below.refl _ _).alloc (Nat.le_refl _) _
        have hone : Recs encDt (fun _ => True) (W5.alloc (.cells #[Value.int .i64 d.proc, Value.int .i64 d.index, Value.int .i64 d.ev.k0, Value.int .i64 d.ev.k1, Value.int .i64 d.ev.k2, Value.int .i64 d.ev.k3, Value.int .i64 d.ev.k4, Value.int .i64 d.ev.k5, Value.int .i64 d.ev.k6] 38)) (.slice (some ⟨W5.heap.size, 0, none⟩) 1 1) [d] := ⟨_, 1, rfl, by simp, by simp [maxLen], Cs.lit _ _ _ _ _ trivial rfl⟩
        go_wp2_with (first | refine wpList_stop 44 rfl ?_ | (refine wpList_load_row rfl 38 _ rfl _ rfl 38 _ (0,0) _ R5.out Try.underlying38 rfl (by kernel_rfl) ?_) )
        refine ⟨?_⟩
        (refine wpList_appR (o := ⟨some 44, _, _, _, _, _⟩) encDt_len encDt_one (.agg #[.int .i64 0, .int .i64 0, .int .i64 0, .int .i64 0, .int .i64 0, .int .i64 0, .int .i64 0, .int .i64 0, .int .i64 0]) 72 _ _ 27 38 w1.heap.size (wholeB (ll.take k)) [d] (some ⟨W5.heap.size, 0, none⟩) 1 1 (.slice A' k c') (k + 1) rfl rfl Try.underlying27 infoDt rfl (by omega) rfl rfl (hown5.ext ha) hone (by rw [hol.out]) (by rw [hol.out]; omega) (by rw [hol.out]; omega) (by have := S5.out; simp; omega) ?_; intro A9 c9 w9 hown9 hgr9 hat9 hc91 hc92)
        go_wp2_with fail
        go_roundw
        case rel => exact ⟨k + 1, A9, c9, by omega, by go_num, rfl, by rw [wholeB_step HLI.out hown.len.1 HP.out]; exact hown9, (hown5.ext ha).grow hgr9 (Below.ext (Below.ext hbr b35) ha) (Nat.le_refl _) (by have := S5.out; simp; omega)⟩
        case measure => simp [intOf]; omega
      · have HD := Lib.hid hd
        have HP := Lib.hid hp
        clear hd hp
        go_wp2_with fail
        refine (refDet_any Ax m cx 0 li _ wr hbx (by omega)).mono ?_
        rintro e w3 ⟨hr, hb3⟩
        obtain rfl := HD.out _ _ hr
        clear hr
        have hs3 := hb3.size
        obtain ⟨W5, hW5, bW5, sW5, rW5⟩ := newD w3 #[Value.int .i64 d.proc, Value.int .i64 d.index, Value.int .i64 d.ev.k0, Value.int .i64 d.ev.k1, Value.int .i64 d.ev.k2, Value.int .i64 d.ev.k3, Value.int .i64 d.ev.k4, Value.int .i64 d.ev.k5, Value.int .i64 d.ev.k6] 38
        have cx5 : W5.cell? ⟨b0, off + k, none⟩ = some (.slice Ax m cx) := by
          rw [cell_ext (Below.ext hb3 bW5) hbl]; exact hcx
        rw [hW5] at cx5
        have S5 := Lib.hid sW5
        clear rW5 hcx sW5
        have b35 := Below.ext hb3 bW5
        have HWE := Lib.hid (wholeB_end HLI.out hown.len.1 HP.out)
        rcases hqx with hx | ⟨rfl, hq⟩
        · have d1 : (x != 0) = true := by simpa using hx
          have d2 : (x == 0) = false := by simpa using hx
          go_wp2_with (refine wpList_store_new rfl 38 _ _ rfl 38 _ #[Value.int .i64 d.proc, Value.int .i64 d.index, Value.int .i64 d.ev.k0, Value.int .i64 d.ev.k1, Value.int .i64 d.ev.k2, Value.int .i64 d.ev.k3, Value.int .i64 d.ev.k4, Value.int .i64 d.ev.k5, Value.int .i64 d.ev.k6] rfl rfl (by kernel_rfl) rfl (by simp [Value.oneCell']) ?_)
          rw [← hW5]
          go_ret
          rw [HWE.out]
          exact ⟨A', c', by rw [hown.len.1]; rfl, by rw [hown.len.1]; exact (hown.ext b35).weak hsz1, Below.ext hb1 (Below.ext hbr b35)⟩
        · rw [HM.out] at hq
          have d1 : (q != (m : Int)) = true := by simpa using hq
          have d2 : (q == (m : Int)) = false := by simpa using hq
          go_wp2_with (refine wpList_store_new rfl 38 _ _ rfl 38 _ #[Value.int .i64 d.proc, Value.int .i64 d.index, Value.int .i64 d.ev.k0, Value.int .i64 d.ev.k1, Value.int .i64 d.ev.k2, Value.int .i64 d.ev.k3, Value.int .i64 d.ev.k4, Value.int .i64 d.ev.k5, Value.int .i64 d.ev.k6] rfl rfl (by kernel_rfl) rfl (by simp [Value.oneCell']) ?_)
          rw [← hW5]
          go_ret
          rw [HWE.out]
          exact ⟨A', c', by rw [hown.len.1]; rfl, by rw [hown.len.1]; exact (hown.ext b35).weak hsz1, Below.ext hb1 (Below.ext hbr b35)⟩
    · obtain rfl : k = n := by omega
      rw [List.take_of_length_le (by have := HN.out; omega)] at hown
      go_wp2
      go_ret
      exact ⟨A', c', by rw [hown.len.1]; rfl, by rw [hown.len.1]; exact hown.weak hsz1, Below.ext hb1 hbr⟩

end Go.Proofs.Ytjcfnpmgklliiaa
