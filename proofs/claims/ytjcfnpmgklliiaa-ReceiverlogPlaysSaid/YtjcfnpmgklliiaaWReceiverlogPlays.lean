/-
  The walk of the law ReceiverlogPlays: it returns true and writes nothing that was there. Conditions: what the row says of its arguments.
-/
import Derived.Test.YtjcfnpmgklliiaaRlI
import Derived.WalkKit
import Derived.ProofKit
import Derived.OpenShut
import Derived.ShutString
import Derived.Below
namespace Go.Proofs.Ytjcfnpmgklliiaa.receiverlogPlays
open Go.ChangeShapes Go.WideShapes Go.ChangeAt Go.RowKit
open Go.ChangeMaps (open_string shut_string)
set_option linter.unusedVariables false
set_option maxRecDepth 100000

set_option maxHeartbeats 4000000 in
theorem walk (a0 : Option Addr) (len0 cap0 : Nat) (z0 : List Int) (w : World) (w0 : IsRow .u8 w a0 len0 cap0 z0) :
    Calls Try.prog 9 #[.slice a0 len0 cap0] w fun e w' => e = .returned (.bool true) ∧ Below w.heap.size w w' := by
  obtain ⟨codes, hk1, hk2, hk3, hkB⟩ := IsRow.bytes w0
  clear w0
  have HK := Lib.hid hk1
  clear hk1
  go_enter Try.func9, Try.ntmps9
  go_wp2_with fail
  refine (awake30_any _).mono ?_
  rintro e w1 ⟨rfl, hb1⟩
  go_wp2_with fail
  refine (rlnew_any _).mono ?_
  rintro e v1 ⟨A1, c1, rfl, J1, hbn1⟩
  go_wp2_with fail
  refine (refnew30_any _).mono ?_
  rintro e v2 ⟨A2, c2, rfl, J2, hb2⟩
  have b2 := Below.ext (Below.ext hb1 hbn1) hb2
  have hz0 : (v2.alloc (.cells #[.slice none 0 0, .slice none 0 0] 70)).heap.size = v2.heap.size + 1 := by simp
  obtain ⟨V, hV⟩ : ∃ V, V = (v2.alloc (.cells #[.slice none 0 0, .slice none 0 0] 70)).alloc (.cells #[.slice none 0 0, .slice none 0 0] 70) := ⟨_, rfl⟩
  have hVb : Below v2.heap.size v2 V := by rw [hV]; exact ((Below.refl _ _).alloc (Nat.le_refl _) _).alloc (by simp) _
  have hVs : V.heap.size = v2.heap.size + 2 := by rw [hV]; simp
  have r1 : V.heap[v2.heap.size]? = some (.cells #[.slice none 0 0, .slice none 0 0] 70 (0, 0)) := by rw [hV]; exact (((Below.refl _ _).alloc (Nat.le_refl _) _).block v2.heap.size (by simp)).trans (heap_alloc_new v2 _)
  have r2 : V.heap[v2.heap.size + 1]? = some (.cells #[.slice none 0 0, .slice none 0 0] 70 (0, 0)) := by
    have := heap_alloc_new (v2.alloc (.cells #[.slice none 0 0, .slice none 0 0] 70)) (.cells #[.slice none 0 0, .slice none 0 0] 70)
    rw [hz0] at this
    rw [hV]
    exact this
  obtain ⟨V1, hV1⟩ : ∃ V1, V1 = V.setRow v2.heap.size #[.slice A1 1 c1, .slice none 0 0] := ⟨_, rfl⟩
  have g1 : V.grownBy V1 (some v2.heap.size) := by rw [hV1]; exact grown_setRow _ _ _
  have r2' : V1.heap[v2.heap.size + 1]? = some (.cells #[.slice none 0 0, .slice none 0 0] 70 (0, 0)) := (g1.block _ (by omega) (by simp)).trans r2
  obtain ⟨V2, hV2⟩ : ∃ V2, V2 = V1.setRow (v2.heap.size + 1) #[.slice A2 1 c2, .slice none 0 0] := ⟨_, rfl⟩
  have g2 : V1.grownBy V2 (some (v2.heap.size + 1)) := by rw [hV2]; exact grown_setRow _ _ _
  have hs1 := g1.size
  have hs2 := g2.size
  have RJ := Lib.hid ((g2.block v2.heap.size (by omega) (by simp)).trans (show V1.heap[v2.heap.size]? = some (.cells #[.slice A1 1 c1, .slice none 0 0] 70 (0, 0)) by rw [hV1]; exact setRow_heap _ _ _ _ _ _ r1))
  have RK := Lib.hid (show V2.heap[v2.heap.size + 1]? = some (.cells #[.slice A2 1 c2, .slice none 0 0] 70 (0, 0)) by rw [hV2]; exact setRow_heap _ _ _ _ _ _ r2')
  have kV : Keep (fun b => b < v2.heap.size) v2 V2 := fun b hb _ => (g2.block b (by omega) (by simp; omega)).trans ((g1.block b (by omega) (by simp; omega)).trans (hVb.block b hb))
  have hJ1 : Jrn (fun b => b ≠ v2.heap.size ∧ b ≠ v2.heap.size + 1) V2 A1 c1 none 0 0 [] [] [] 0 := (((J1.ext hb2).mono (S' := fun b => b < v2.heap.size) (fun b hb _ => hb)).keep kV).mono (fun b _ h => ⟨by omega, by omega⟩)
  have hJ2 : Jrn (fun b => b ≠ v2.heap.size ∧ b ≠ v2.heap.size + 1) V2 A2 c2 none 0 0 [] [] [] 0 := ((J2.mono (S' := fun b => b < v2.heap.size) (fun b hb _ => hb)).keep kV).mono (fun b _ h => ⟨by omega, by omega⟩)
  have bV2 : Below w.heap.size w V2 := by rw [hV2, hV1]; exact Below.setRow (Below.setRow (Below.ext b2 hVb) (by have := b2.size; omega) _) (by have := b2.size; omega) _
  rw [hV] at r1 hV1
  rw [hV1] at r2' hV2
  have Q1 := Lib.hid r1
  have Q2 := Lib.hid r2'
  have HV2 := Lib.hid hV2
  have hVs2 : v2.heap.size + 2 ≤ V2.heap.size := by omega
  clear hz0 hV hVb hVs r1 r2 hV1 g1 r2' hV2 g2 hs1 hs2 kV J1 J2
  go_upto_region 4 with (first | (refine wpList_store_row rfl 70 _ _ rfl v2.heap.size 70 _ _ rfl rfl Q1.out (by kernel_rfl) rfl (by simp [Value.oneCell']) ?_) | (refine wpList_store_row rfl 70 _ _ rfl (v2.heap.size + 1) 70 _ _ rfl rfl Q2.out (by kernel_rfl) rfl (by simp [Value.oneCell']) ?_))
  rw [← HV2.out]
  clear HV2 Q1 Q2
  obtain ⟨bj, hbj⟩ : ∃ bj, bj = v2.heap.size := ⟨_, rfl⟩
  obtain ⟨bk, hbk⟩ : ∃ bk, bk = v2.heap.size + 1 := ⟨_, rfl⟩
  rw [← hbk] at RK hJ1 hJ2 ⊢
  rw [← hbj] at RJ hJ1 hJ2 ⊢
  have hjk : bj < bk := by omega
  have hkV : bk < V2.heap.size := by omega
  have hwj : w.heap.size ≤ bj := by have := b2.size; omega
  clear hbj hbk hVs2
  have hac := acts_any _ _ _ codes _ V2 (hkB.ext bV2) true
  have Hac := Lib.hid hac
  clear hac
  go_wp2_with fail
  refine (Hac.out).mono ?_
  rintro e w6 ⟨A6, c6, acs, rfl, hal, hacts, hain, hb6⟩
  obtain ⟨nA, hnA⟩ : ∃ nA, acs.length = nA := ⟨_, rfl⟩
  rw [hnA] at hacts hal ⊢
  have HNA := Lib.hid hnA
  have HAIN := Lib.hid hain
  have rj := (hb6.block bj (by omega)).trans RJ.out
  have rk := (hb6.block bk (by omega)).trans RK.out
  have b6 := Below.ext bV2 hb6
  have hs6 := hb6.size
  have hA6 := hacts.mono (S' := (fun b => b ≠ bj ∧ b ≠ bk)) (fun b _ h => ⟨by omega, by omega⟩)
  have hJ6 := hJ1.ext hb6
  have hK6 := hJ2.ext hb6
  have hk6 : bk < w6.heap.size := by omega
  clear hnA hain hb6 hacts hJ1 hJ2 RJ RK hb1 hbn1 hb2 b2 Hac hs6 bV2 hkV
  have RJ := Lib.hid rj
  have RK := Lib.hid rk
  clear rj rk
  go_wp2_with fail
  go_loopw [6] (fun i wr => ∃ (k : Nat) (A : Option Addr) (c : Nat) (B : Option Addr) (m d : Nat) (A' : Option Addr) (c' : Nat) (B' : Option Addr) (d' : Nat) (a b u : List Dt), i = .int .i64 (k : Int) ∧ k ≤ nA ∧ wr.heap[bj]? = some (.cells #[.slice A 1 c, .slice B m d] 70 (0, 0)) ∧ wr.heap[bk]? = some (.cells #[.slice A' 1 c', .slice B' m d'] 70 (0, 0)) ∧ Jrn (fun b => b ≠ bj ∧ b ≠ bk) wr A c B m d a b u k ∧ Jrn (fun b => b ≠ bj ∧ b ≠ bk) wr A' c' B' m d' a b u k ∧ Acts (fun b => b ≠ bj ∧ b ≠ bk) wr (.slice A6 nA c6) acs ∧ Below w.heap.size w wr ∧ bk < wr.heap.size) (fun i _ => nA - (intOf i).toNat)
  case atStart => exact ⟨0, A1, c1, none, 0, 0, A2, c2, none, 0, [], [], [], rfl, by omega, RJ.out, RK.out, hJ6, hK6, hA6, b6, hk6⟩
  case round =>
    clear RJ RK hJ6 hK6 hA6 b6 hk6
    obtain ⟨k, A, c, B, m, d, A', c', B', d', a, b, u, rfl, hk, hrj, hrk, hJ, hK, hA, hb, hkw⟩ := hrel
    have HRJ := Lib.hid hrj
    have HRK := Lib.hid hrk
    clear hrj hrk
    by_cases hlt : k < nA
    · have hacl := hA.len.2
      obtain ⟨ba, oa, x, t, rfl, hba, ht, hok, hca⟩ := hA.at_ hlt
      have hin := HAIN.out t (List.mem_of_getElem? ht)
      have HCA := Lib.hid hca
      have HT := Lib.hid ht
      have hm := Lib.hid hJ.len.1
      obtain ⟨a2, b2, u2, hst⟩ := StepR.ex t hin.1 a b u
      have hJw := hJ.mono (S' := fun b => (b ≠ bj ∧ b ≠ bk) ∧ b < wr.heap.size) (fun b hb h => ⟨h, hb⟩)
      have hKw := hK.ext (Below.refl _ wr)
      clear hca ht hJ hK
      go_upto_region 8 with fail
      try (go_wp2_with fail)
      refine wp_region_floats false (fun w' => Below wr.heap.size wr w') [7] ((fun _ => .cells #[.slice none 0 0, .slice none 0 0] 70)) (fun _ Xa => .pointer (some ⟨Xa, 0, none⟩)) (by kernel_rfl) (by kernel_rfl) (fun _ _ w' h => h.alloc h.size _) ((Below.refl _ wr).drew) ?_
      repeat (first | (refine msL_q1 rfl rfl ?_; go_big_quiet_step (fail); refine wpQuiet_nil ?_) | (refine msL_skip0 rfl rfl rfl ?_; simp only [Act.put, List.setIfInBounds_toArray, List.set_cons_succ, List.set_cons_zero]))
      refine msL_ld (⟨bj, 0, none⟩) (.agg #[.slice A 1 c, .slice B m d]) rfl rfl rfl rfl (fun w' hw' => ld_jrn ((hw'.block bj (Array.getElem?_eq_some_iff.1 HRJ.out).1).trans HRJ.out)) ?_
      simp only [Act.put, List.setIfInBounds_toArray, List.set_cons_succ, List.set_cons_zero]
      repeat (first | (refine msL_q1 rfl rfl ?_; go_big_quiet_step (fail); refine wpQuiet_nil ?_) | (refine msL_skip0 rfl rfl rfl ?_; simp only [Act.put, List.setIfInBounds_toArray, List.set_cons_succ, List.set_cons_zero]))
      refine msL_ld (⟨ba, oa + k * 13, none⟩) (.agg #[.int .i64 x.kind, .int .i64 x.d.proc, .int .i64 x.d.index, .int .i64 x.d.ev.k0, .int .i64 x.d.ev.k1, .int .i64 x.d.ev.k2, .int .i64 x.d.ev.k3, .int .i64 x.d.ev.k4, .int .i64 x.d.ev.k5, .int .i64 x.d.ev.k6, .int .i64 x.n, .int .i64 x.keep, .slice x.L x.nl x.cl]) rfl rfl rfl rfl (fun w' hw' => ld_act hw' hba HCA.out) ?_
      simp only [Act.put, List.setIfInBounds_toArray, List.set_cons_succ, List.set_cons_zero]
      repeat (first | (refine msL_q1 rfl rfl ?_; go_big_quiet_step (fail); refine wpQuiet_nil ?_) | (refine msL_skip0 rfl rfl rfl ?_; simp only [Act.put, List.setIfInBounds_toArray, List.set_cons_succ, List.set_cons_zero]))
      refine msL_e rfl rfl (fun m1a v1a hE1a => ?_)
      go_wp2_with fail
      have x1a := hE1a.bxs (Bxs.none_ wr.heap.size _ _) (Nat.le_refl _)
      have y1a : Below wr.heap.size wr v1a := Below.ext (Below.refl _ wr).drew hE1a.bel
      have hdo := do30_any A c B m d a b u k _ v1a (hJw.ext y1a) x t _ (hok.ext y1a) true hin (by omega) a2 b2 u2 hst
      have Hdoa := Lib.hid hdo
      clear hdo
      refine Hdoa.out.mono ?_
      rintro e v2a ⟨A2a, c2a, B2a, n2a, d2a, rfl, hJ2a, hb2a⟩
      have y2a := Below.ext y1a hb2a
      have x2a := x1a.ext hb2a
      have s1a := y1a.size
      have hJ2'a := hJ2a.mono (S' := fun b => (b ≠ bj ∧ b ≠ bk) ∧ m1a 7 ≠ some b) (fun b _ h => by
        rcases h with h | h
        · exact ⟨⟨h.1.1, h.1.2⟩, x1a.low h.2⟩
        · exact ⟨⟨by omega, by omega⟩, x1a.lt h⟩)
      go_wp2_with fail
      refine msL_go (y2a) ?_
      repeat (first | (refine msL_q1 rfl rfl ?_; go_big_quiet_step (fail); refine wpQuiet_nil ?_) | (refine msL_skip0 rfl rfl rfl ?_; simp only [Act.put, List.setIfInBounds_toArray, List.set_cons_succ, List.set_cons_zero]))
      refine msL_x 7 rfl (⟨rfl, fun w' => alloc_jrn _ _ w' rfl⟩) (fun m3a v3a Xa hE3a hXa => ?_)
      simp only [Act.put, List.setIfInBounds_toArray, List.set_cons_succ, List.set_cons_zero]
      repeat (first | (refine msL_q1 rfl rfl ?_; go_big_quiet_step (fail); refine wpQuiet_nil ?_) | (refine msL_skip0 rfl rfl rfl ?_; simp only [Act.put, List.setIfInBounds_toArray, List.set_cons_succ, List.set_cons_zero]))
      have x3a := hE3a.bxs x2a y2a.size
      have y3a := Below.ext y2a hE3a.bel
      have rowXa := (x3a 7 Xa hXa).2
      have hWXa := (x3a 7 Xa hXa).1
      have hJ3a := (hJ2'a.mono (S' := fun b => (b ≠ bj ∧ b ≠ bk) ∧ b ≠ Xa) (fun b hb h => ⟨h.1, fun e => hE3a.ne (d := 7) hb h.2 (by rw [hXa, e])⟩)).ext hE3a.bel
      refine msL_d rfl rfl ((by simp [hXa])) ?_
      refine wpList_store_row rfl 70 _ _ rfl Xa 70 _ _ rfl rfl rowXa (by kernel_rfl) rfl (by simp [Value.oneCell']) ?_
      obtain ⟨Va, hVa⟩ : ∃ Va, Va = v3a.setRow Xa #[.slice A2a 1 c2a, .slice B2a n2a d2a] := ⟨_, rfl⟩
      have gVa : v3a.grownBy Va (some Xa) := by rw [hVa]; exact grown_setRow _ _ _
      have yVa : Below wr.heap.size wr Va := by rw [hVa]; exact Below.setRow y3a hWXa _
      have RXa := Lib.hid (show Va.heap[Xa]? = some (.cells #[.slice A2a 1 c2a, .slice B2a n2a d2a] 70 (0, 0)) by rw [hVa]; exact setRow_heap _ _ _ _ _ _ rowXa)
      have hJVa := (hJ3a.keep (fun b hb h => gVa.block b hb (by simp; exact h.2))).mono (S' := fun b => b ≠ bj ∧ b ≠ bk) (fun b _ h => h.1)
      have hXVa : Xa < Va.heap.size := (Array.getElem?_eq_some_iff.1 RXa.out).1
      rw [← hVa]
      clear hVa gVa hJ3a hJ2'a hJ2a rowXa x1a x2a x3a hE1a hE3a hb2a y1a y2a y3a Hdoa hXa
      refine msL_go yVa ?_
      simp only [Act.put]
      repeat (first | (refine msL_q1 rfl rfl ?_; go_big_quiet_step (fail); refine wpQuiet_nil ?_) | (refine msL_skip0 rfl rfl rfl ?_; simp only [Act.put, List.setIfInBounds_toArray, List.set_cons_succ, List.set_cons_zero]))
      refine msL_nil ?_
      go_upto_region 9 with fail
      have hKa := (hKw.ext yVa).mono (S' := fun b => (b ≠ bj ∧ b ≠ bk) ∧ b < Va.heap.size) (fun b hb h => ⟨h, hb⟩)
      have HRKa := Lib.hid ((yVa.block bk hkw).trans HRK.out)
      have HRJa := Lib.hid ((yVa.block bj (by omega)).trans HRJ.out)
      have sVa := yVa.size
      have hkwa : bk < Va.heap.size := by omega
      have hbaa : ba < Va.heap.size := by omega
      have HCAa := Lib.hid (fun i u' h => (yVa.cell (p := ⟨ba, oa + k * 13 + i, none⟩) hba).trans (HCA.out i u' h))
      have hoka := hok.ext yVa
      clear hKw hJw
      try (go_wp2_with fail)
      refine wp_region_floats false (fun w' => Below Va.heap.size Va w') [9] ((fun _ => .cells #[.slice none 0 0, .slice none 0 0] 70)) (fun _ Xb => .pointer (some ⟨Xb, 0, none⟩)) (by kernel_rfl) (by kernel_rfl) (fun _ _ w' h => h.alloc h.size _) ((Below.refl _ Va).drew) ?_
      repeat (first | (refine msL_q1 rfl rfl ?_; go_big_quiet_step (fail); refine wpQuiet_nil ?_) | (refine msL_skip0 rfl rfl rfl ?_; simp only [Act.put, List.setIfInBounds_toArray, List.set_cons_succ, List.set_cons_zero]))
      refine msL_ld (⟨bk, 0, none⟩) (.agg #[.slice A' 1 c', .slice B' m d']) rfl rfl rfl rfl (fun w' hw' => ld_jrn ((hw'.block bk (Array.getElem?_eq_some_iff.1 HRKa.out).1).trans HRKa.out)) ?_
      simp only [Act.put, List.setIfInBounds_toArray, List.set_cons_succ, List.set_cons_zero]
      repeat (first | (refine msL_q1 rfl rfl ?_; go_big_quiet_step (fail); refine wpQuiet_nil ?_) | (refine msL_skip0 rfl rfl rfl ?_; simp only [Act.put, List.setIfInBounds_toArray, List.set_cons_succ, List.set_cons_zero]))
      refine msL_ld (⟨ba, oa + k * 13, none⟩) (.agg #[.int .i64 x.kind, .int .i64 x.d.proc, .int .i64 x.d.index, .int .i64 x.d.ev.k0, .int .i64 x.d.ev.k1, .int .i64 x.d.ev.k2, .int .i64 x.d.ev.k3, .int .i64 x.d.ev.k4, .int .i64 x.d.ev.k5, .int .i64 x.d.ev.k6, .int .i64 x.n, .int .i64 x.keep, .slice x.L x.nl x.cl]) rfl rfl rfl rfl (fun w' hw' => ld_act hw' hbaa HCAa.out) ?_
      simp only [Act.put, List.setIfInBounds_toArray, List.set_cons_succ, List.set_cons_zero]
      repeat (first | (refine msL_q1 rfl rfl ?_; go_big_quiet_step (fail); refine wpQuiet_nil ?_) | (refine msL_skip0 rfl rfl rfl ?_; simp only [Act.put, List.setIfInBounds_toArray, List.set_cons_succ, List.set_cons_zero]))
      refine msL_e rfl rfl (fun m1b v1b hE1b => ?_)
      go_wp2_with fail
      have x1b := hE1b.bxs (Bxs.none_ Va.heap.size _ _) (Nat.le_refl _)
      have y1b : Below Va.heap.size Va v1b := Below.ext (Below.refl _ Va).drew hE1b.bel
      have hdo := doc30_any A' c' B' m d' a b u k _ v1b (hKa.ext y1b) x t _ (hoka.ext y1b) true hin (by omega) a2 b2 u2 hst
      have Hdob := Lib.hid hdo
      clear hdo
      refine Hdob.out.mono ?_
      rintro e v2b ⟨A2b, c2b, B2b, n2b, d2b, rfl, hJ2b, hb2b⟩
      have y2b := Below.ext y1b hb2b
      have x2b := x1b.ext hb2b
      have s1b := y1b.size
      have hJ2'b := hJ2b.mono (S' := fun b => (b ≠ bj ∧ b ≠ bk) ∧ m1b 9 ≠ some b) (fun b _ h => by
        rcases h with h | h
        · exact ⟨⟨h.1.1, h.1.2⟩, x1b.low h.2⟩
        · exact ⟨⟨by omega, by omega⟩, x1b.lt h⟩)
      go_wp2_with fail
      refine msL_go (y2b) ?_
      repeat (first | (refine msL_q1 rfl rfl ?_; go_big_quiet_step (fail); refine wpQuiet_nil ?_) | (refine msL_skip0 rfl rfl rfl ?_; simp only [Act.put, List.setIfInBounds_toArray, List.set_cons_succ, List.set_cons_zero]))
      refine msL_x 9 rfl (⟨rfl, fun w' => alloc_jrn _ _ w' rfl⟩) (fun m3b v3b Xb hE3b hXb => ?_)
      simp only [Act.put, List.setIfInBounds_toArray, List.set_cons_succ, List.set_cons_zero]
      repeat (first | (refine msL_q1 rfl rfl ?_; go_big_quiet_step (fail); refine wpQuiet_nil ?_) | (refine msL_skip0 rfl rfl rfl ?_; simp only [Act.put, List.setIfInBounds_toArray, List.set_cons_succ, List.set_cons_zero]))
      have x3b := hE3b.bxs x2b y2b.size
      have y3b := Below.ext y2b hE3b.bel
      have rowXb := (x3b 9 Xb hXb).2
      have hWXb := (x3b 9 Xb hXb).1
      have hJ3b := (hJ2'b.mono (S' := fun b => (b ≠ bj ∧ b ≠ bk) ∧ b ≠ Xb) (fun b hb h => ⟨h.1, fun e => hE3b.ne (d := 9) hb h.2 (by rw [hXb, e])⟩)).ext hE3b.bel
      refine msL_d rfl rfl ((by simp [hXb])) ?_
      refine wpList_store_row rfl 70 _ _ rfl Xb 70 _ _ rfl rfl rowXb (by kernel_rfl) rfl (by simp [Value.oneCell']) ?_
      obtain ⟨Vb, hVb⟩ : ∃ Vb, Vb = v3b.setRow Xb #[.slice A2b 1 c2b, .slice B2b n2b d2b] := ⟨_, rfl⟩
      have gVb : v3b.grownBy Vb (some Xb) := by rw [hVb]; exact grown_setRow _ _ _
      have yVb : Below Va.heap.size Va Vb := by rw [hVb]; exact Below.setRow y3b hWXb _
      have RXb := Lib.hid (show Vb.heap[Xb]? = some (.cells #[.slice A2b 1 c2b, .slice B2b n2b d2b] 70 (0, 0)) by rw [hVb]; exact setRow_heap _ _ _ _ _ _ rowXb)
      have hJVb := (hJ3b.keep (fun b hb h => gVb.block b hb (by simp; exact h.2))).mono (S' := fun b => b ≠ bj ∧ b ≠ bk) (fun b _ h => h.1)
      have hXVb : Xb < Vb.heap.size := (Array.getElem?_eq_some_iff.1 RXb.out).1
      rw [← hVb]
      clear hVb gVb hJ3b hJ2'b hJ2b rowXb x1b x2b x3b hE1b hE3b hb2b y1b y2b y3b Hdob hXb
      refine msL_go yVb ?_
      simp only [Act.put]
      repeat (first | (refine msL_q1 rfl rfl ?_; go_big_quiet_step (fail); refine wpQuiet_nil ?_) | (refine msL_skip0 rfl rfl rfl ?_; simp only [Act.put, List.setIfInBounds_toArray, List.set_cons_succ, List.set_cons_zero]))
      refine msL_nil ?_
      go_upto_region 10 with fail
      have kab := Below.ext yVa yVb
      have RXa2 := Lib.hid ((yVb.block Xa hXVa).trans RXa.out)
      have hJb := hJVa.ext yVb
      have hsb := yVb.size
      obtain rfl : n2b = n2a := by have := hJVa.len.1; have := hJVb.len.1; omega
      have hsm := same30_eq A2a c2a B2a d2a A2b c2b B2b d2b n2b a2 b2 u2 _ _ _ _ Vb hJb hJVb
      have Hsm := Lib.hid hsm
      clear hsm
      go_wp2_with (first | (refine wpList_ldv (t := 70) (A := ⟨Xa, 0, none⟩) rfl rfl rfl (ld_jrn RXa2.out) ?_) | (refine wpList_ldv (t := 70) (A := ⟨Xb, 0, none⟩) rfl rfl rfl (ld_jrn RXb.out) ?_))
      refine Hsm.out.mono ?_
      rintro e v9 ⟨rfl, hb9⟩
      have R9a := Lib.hid ((hb9.block Xa (by omega)).trans RXa2.out)
      have R9b := Lib.hid ((hb9.block Xb hXVb).trans RXb.out)
      have k9 := Below.ext kab hb9
      have R9j := Lib.hid ((k9.block bj (by omega)).trans HRJ.out)
      have R9k := Lib.hid ((k9.block bk (by omega)).trans HRK.out)
      have hJ9 := hJb.ext hb9
      have hK9 := hJVb.ext hb9
      have hA9 := hA.ext k9
      have b9 := Below.ext hb k9
      have hk9 := k9.size
      have hz9 := hb9.size
      have hXa9 : Xa ≠ bj ∧ Xa ≠ bk := ⟨by omega, by omega⟩
      have hXb9 : Xb ≠ bj ∧ Xb ≠ bk := ⟨by omega, by omega⟩
      clear hJb hJVb hJVa Hsm RXa RXa2 RXb hKa hok hoka HCA HCAa HRKa HRJa
      go_upto_region 12 with fail
      go_wp2_with fail
      refine wp_region_lexL ((fun w' => w'.heap[Xa]? = some (.cells #[.slice A2a 1 c2a, .slice B2a n2b d2a] 70 (0, 0)) ∧ w'.heap[Xb]? = some (.cells #[.slice A2b 1 c2b, .slice B2b n2b d2b] 70 (0, 0)))) (by kernel_rfl) (by kernel_rfl) (⟨R9a.out, R9b.out⟩) ?_
      repeat (first | (refine lexL_q0 rfl ?_; go_big_quiet_step (fail); refine wpQuiet_nil ?_) | (refine lexL_skip0 rfl rfl ?_; simp only [Act.put, List.setIfInBounds_toArray, List.set_cons_succ, List.set_cons_zero]))
      refine lexL_ld (⟨Xa, 0, none⟩) (.agg #[.slice A2a 1 c2a, .slice B2a n2b d2a]) rfl rfl rfl (fun w' hw' => ld_jrn hw'.1) ?_
      simp only [Act.put, List.setIfInBounds_toArray, List.set_cons_succ, List.set_cons_zero]
      repeat (first | (refine lexL_q0 rfl ?_; go_big_quiet_step (fail); refine wpQuiet_nil ?_) | (refine lexL_skip0 rfl rfl ?_; simp only [Act.put, List.setIfInBounds_toArray, List.set_cons_succ, List.set_cons_zero]))
      refine lexL_ld (⟨Xb, 0, none⟩) (.agg #[.slice A2b 1 c2b, .slice B2b n2b d2b]) rfl rfl rfl (fun w' hw' => ld_jrn hw'.2) ?_
      simp only [Act.put, List.setIfInBounds_toArray, List.set_cons_succ, List.set_cons_zero]
      repeat (first | (refine lexL_q0 rfl ?_; go_big_quiet_step (fail); refine wpQuiet_nil ?_) | (refine lexL_skip0 rfl rfl ?_; simp only [Act.put, List.setIfInBounds_toArray, List.set_cons_succ, List.set_cons_zero]))
      refine lexL_e rfl ?_
      obtain ⟨W10, hW10⟩ : ∃ W10, W10 = v9.drew.setRow bj #[.slice A2a 1 c2a, .slice B2a n2b d2a] := ⟨_, rfl⟩
      have g10 : v9.drew.grownBy W10 (some bj) := by rw [hW10]; exact grown_setRow _ _ _
      have R10j := Lib.hid (show W10.heap[bj]? = some (.cells #[.slice A2a 1 c2a, .slice B2a n2b d2a] 70 (0, 0)) by rw [hW10]; exact setRow_heap _ _ _ _ _ _ R9j.out)
      have hs9 : v9.drew.heap.size = v9.heap.size := rfl
      have R10k := Lib.hid ((g10.block bk (show bk < v9.heap.size by omega) (by simp; omega)).trans R9k.out)
      have R10a := Lib.hid ((g10.block Xa (show Xa < v9.heap.size by omega) (by simp; omega)).trans R9a.out)
      have R10b := Lib.hid ((g10.block Xb (show Xb < v9.heap.size by omega) (by simp; omega)).trans R9b.out)
      have b10 : Below w.heap.size w W10 := by rw [hW10]; exact Below.setRow b9.drew (by omega) _
      go_wp2_with (refine wpList_store_row rfl 70 _ _ rfl bj 70 _ _ rfl rfl R9j.out (by kernel_rfl) rfl (by simp [Value.oneCell']) ?_)
      rw [← hW10]
      clear hW10
      refine lexL_go ⟨R10a.out, R10b.out⟩ ?_
      repeat (first | (refine lexL_q0 rfl ?_; go_big_quiet_step (fail); refine wpQuiet_nil ?_) | (refine lexL_skip0 rfl rfl ?_; simp only [Act.put, List.setIfInBounds_toArray, List.set_cons_succ, List.set_cons_zero]))
      refine lexL_e rfl ?_
      obtain ⟨W11, hW11⟩ : ∃ W11, W11 = W10.setRow bk #[.slice A2b 1 c2b, .slice B2b n2b d2b] := ⟨_, rfl⟩
      have g11 : W10.grownBy W11 (some bk) := by rw [hW11]; exact grown_setRow _ _ _
      have R11k := Lib.hid (show W11.heap[bk]? = some (.cells #[.slice A2b 1 c2b, .slice B2b n2b d2b] 70 (0, 0)) by rw [hW11]; exact setRow_heap _ _ _ _ _ _ R10k.out)
      have hs10 : v9.heap.size ≤ W10.heap.size := g10.size
      have hs11 := g11.size
      have R11j := Lib.hid ((g11.block bj (by omega) (by simp; omega)).trans R10j.out)
      have R11a := Lib.hid ((g11.block Xa (by omega) (by simp; omega)).trans R10a.out)
      have R11b := Lib.hid ((g11.block Xb (by omega) (by simp; omega)).trans R10b.out)
      have b11 : Below w.heap.size w W11 := by rw [hW11]; exact Below.setRow b10 (by omega) _
      have kp : Keep (fun b => b ≠ bj ∧ b ≠ bk) v9.drew W11 := fun q hq h => (g11.block q (by omega) (by simp; exact h.2)).trans (g10.block q hq (by simp; exact h.1))
      have hJ11 := (hJ9.ext (Below.refl _ v9).drew).keep kp
      have hK11 := (hK9.ext (Below.refl _ v9).drew).keep kp
      have hA11 := (hA9.ext (Below.refl _ v9).drew).keep kp
      go_wp2_with (refine wpList_store_row rfl 70 _ _ rfl bk 70 _ _ rfl rfl R10k.out (by kernel_rfl) rfl (by simp [Value.oneCell']) ?_)
      rw [← hW11]
      clear hW11
      refine lexL_go ⟨R11a.out, R11b.out⟩ ?_
      repeat (first | (refine lexL_q0 rfl ?_; go_big_quiet_step (fail); refine wpQuiet_nil ?_) | (refine lexL_skip0 rfl rfl ?_; simp only [Act.put, List.setIfInBounds_toArray, List.set_cons_succ, List.set_cons_zero]))
      refine lexL_nil ?_
      clear g10 g11 kp hJ9 hK9 hA9 R9a R9b R9j R9k R10a R10b R10j R10k R11a R11b b9 k9 kab hb
      have hkW : bk < W11.heap.size := by omega
      obtain ⟨na2, hna2⟩ : ∃ q, a2.length = q := ⟨_, rfl⟩
      obtain ⟨nab, hnab⟩ : ∃ q, (a2 ++ b2).length = q := ⟨_, rfl⟩
      have HN2 := Lib.hid hna2
      have HNB := Lib.hid hnab
      clear hna2 hnab
      go_upto_region 13 with fail
      go_wp2_with fail
      refine wp_region_lexL ((fun w' => Below W11.heap.size W11 w')) (by kernel_rfl) (by kernel_rfl) ((Below.refl _ W11).drew) ?_
      repeat (first | (refine lexL_q0 rfl ?_; go_big_quiet_step (fail); refine wpQuiet_nil ?_) | (refine lexL_skip0 rfl rfl ?_; simp only [Act.put, List.setIfInBounds_toArray, List.set_cons_succ, List.set_cons_zero]))
      refine lexL_ld (⟨bj, 0, none⟩) (.agg #[.slice A2a 1 c2a, .slice B2a n2b d2a]) rfl rfl rfl (fun w' hw' => ld_jrn ((hw'.block bj (by omega)).trans R11j.out)) ?_
      simp only [Act.put, List.setIfInBounds_toArray, List.set_cons_succ, List.set_cons_zero]
      repeat (first | (refine lexL_q0 rfl ?_; go_big_quiet_step (fail); refine wpQuiet_nil ?_) | (refine lexL_skip0 rfl rfl ?_; simp only [Act.put, List.setIfInBounds_toArray, List.set_cons_succ, List.set_cons_zero]))
      refine lexL_e rfl ?_
      go_wp2_with fail
      refine (rlstable_any _ _ _ _ _ a2 b2 u2 _ _ _ (hJ11.ext (Below.refl _ W11).drew) na2 HN2.out).mono ?_
      rintro e x1 ⟨Ax1, cx1, rfl, hx1, zx1⟩
      have y1 := Below.ext (Below.refl _ W11).drew zx1
      go_wp2_with fail
      refine lexL_go (y1) ?_
      repeat (first | (refine lexL_q0 rfl ?_; go_big_quiet_step (fail); refine wpQuiet_nil ?_) | (refine lexL_skip0 rfl rfl ?_; simp only [Act.put, List.setIfInBounds_toArray, List.set_cons_succ, List.set_cons_zero]))
      refine lexL_ld (⟨bk, 0, none⟩) (.agg #[.slice A2b 1 c2b, .slice B2b n2b d2b]) rfl rfl rfl (fun w' hw' => ld_jrn ((hw'.block bk hkW).trans R11k.out)) ?_
      simp only [Act.put, List.setIfInBounds_toArray, List.set_cons_succ, List.set_cons_zero]
      repeat (first | (refine lexL_q0 rfl ?_; go_big_quiet_step (fail); refine wpQuiet_nil ?_) | (refine lexL_skip0 rfl rfl ?_; simp only [Act.put, List.setIfInBounds_toArray, List.set_cons_succ, List.set_cons_zero]))
      refine lexL_e rfl ?_
      go_wp2_with fail
      refine (refstable_any _ _ _ _ _ a2 b2 u2 _ _ _ (hK11.ext y1) na2 HN2.out).mono ?_
      rintro e x2 ⟨Ax2, cx2, rfl, hx2, zx2⟩
      have y2 := Below.ext y1 zx2
      go_wp2_with fail
      refine lexL_go (y2) ?_
      repeat (first | (refine lexL_q0 rfl ?_; go_big_quiet_step (fail); refine wpQuiet_nil ?_) | (refine lexL_skip0 rfl rfl ?_; simp only [Act.put, List.setIfInBounds_toArray, List.set_cons_succ, List.set_cons_zero]))
      refine lexL_e rfl ?_
      go_wp2_with fail
      refine (same27_eq _ _ _ _ _ a2 _ _ _ (hx1.ext zx2) hx2).mono ?_
      rintro e x3 ⟨rfl, zx3⟩
      have y3 := Below.ext y2 zx3
      go_wp2_with fail
      refine lexL_go (y3) ?_
      repeat (first | (refine lexL_q0 rfl ?_; go_big_quiet_step (fail); refine wpQuiet_nil ?_) | (refine lexL_skip0 rfl rfl ?_; simp only [Act.put, List.setIfInBounds_toArray, List.set_cons_succ, List.set_cons_zero]))
      refine lexL_ld (⟨bj, 0, none⟩) (.agg #[.slice A2a 1 c2a, .slice B2a n2b d2a]) rfl rfl rfl (fun w' hw' => ld_jrn ((hw'.block bj (by omega)).trans R11j.out)) ?_
      simp only [Act.put, List.setIfInBounds_toArray, List.set_cons_succ, List.set_cons_zero]
      repeat (first | (refine lexL_q0 rfl ?_; go_big_quiet_step (fail); refine wpQuiet_nil ?_) | (refine lexL_skip0 rfl rfl ?_; simp only [Act.put, List.setIfInBounds_toArray, List.set_cons_succ, List.set_cons_zero]))
      refine lexL_e rfl ?_
      go_wp2_with fail
      refine (rlcontents_any _ _ _ _ _ a2 b2 u2 _ _ _ (hJ11.ext y3) nab HNB.out).mono ?_
      rintro e x4 ⟨Ax4, cx4, rfl, hx4, zx4⟩
      have y4 := Below.ext y3 zx4
      go_wp2_with fail
      refine lexL_go (y4) ?_
      repeat (first | (refine lexL_q0 rfl ?_; go_big_quiet_step (fail); refine wpQuiet_nil ?_) | (refine lexL_skip0 rfl rfl ?_; simp only [Act.put, List.setIfInBounds_toArray, List.set_cons_succ, List.set_cons_zero]))
      refine lexL_ld (⟨bk, 0, none⟩) (.agg #[.slice A2b 1 c2b, .slice B2b n2b d2b]) rfl rfl rfl (fun w' hw' => ld_jrn ((hw'.block bk hkW).trans R11k.out)) ?_
      simp only [Act.put, List.setIfInBounds_toArray, List.set_cons_succ, List.set_cons_zero]
      repeat (first | (refine lexL_q0 rfl ?_; go_big_quiet_step (fail); refine wpQuiet_nil ?_) | (refine lexL_skip0 rfl rfl ?_; simp only [Act.put, List.setIfInBounds_toArray, List.set_cons_succ, List.set_cons_zero]))
      refine lexL_e rfl ?_
      go_wp2_with fail
      refine (refcontents_any _ _ _ _ _ a2 b2 u2 _ _ _ (hK11.ext y4) nab HNB.out).mono ?_
      rintro e x5 ⟨Ax5, cx5, rfl, hx5, zx5⟩
      have y5 := Below.ext y4 zx5
      go_wp2_with fail
      refine lexL_go (y5) ?_
      repeat (first | (refine lexL_q0 rfl ?_; go_big_quiet_step (fail); refine wpQuiet_nil ?_) | (refine lexL_skip0 rfl rfl ?_; simp only [Act.put, List.setIfInBounds_toArray, List.set_cons_succ, List.set_cons_zero]))
      refine lexL_e rfl ?_
      go_wp2_with fail
      refine (same27_eq _ _ _ _ _ (a2 ++ b2 ++ u2) _ _ _ (hx4.ext zx5) hx5).mono ?_
      rintro e x6 ⟨rfl, zx6⟩
      have y6 := Below.ext y5 zx6
      go_wp2_with fail
      refine lexL_go (y6) ?_
      repeat (first | (refine lexL_q0 rfl ?_; go_big_quiet_step (fail); refine wpQuiet_nil ?_) | (refine lexL_skip0 rfl rfl ?_; simp only [Act.put, List.setIfInBounds_toArray, List.set_cons_succ, List.set_cons_zero]))
      refine lexL_nil ?_
      go_wp2_with fail
      refine ⟨⟨k + 1, A2a, c2a, B2a, n2b, d2a, A2b, c2b, B2b, d2b, a2, b2, u2, by congr 1, by omega, (y6.block bj (by omega)).trans R11j.out, (y6.block bk hkW).trans R11k.out, hJ11.ext y6, hK11.ext y6, hA11.ext y6, Below.ext b11 y6, by have := y6.size; omega⟩, by simp [intOf]; omega⟩
    · obtain rfl : k = nA := by omega
      go_wp2
      go_ret
      exact ⟨rfl, hb⟩
end Go.Proofs.Ytjcfnpmgklliiaa.receiverlogPlays
