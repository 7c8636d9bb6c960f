/-
  The walk of the law ReceiverlogPessimistic: it returns true and writes nothing that was there. Conditions: what the row says of its arguments.
-/
import Derived.Test.YtjcfnpmgklliiaaRlI
import Derived.WalkKit
import Derived.ProofKit
import Derived.OpenShut
import Derived.ShutString
import Derived.Below
namespace Go.Proofs.Ytjcfnpmgklliiaa.receiverlogPessimistic
open Go.ChangeShapes Go.WideShapes Go.ChangeAt Go.RowKit
open Go.ChangeMaps (open_string shut_string)
set_option linter.unusedVariables false
set_option maxRecDepth 100000

set_option maxHeartbeats 4000000 in
theorem walk (a0 : Option Addr) (len0 cap0 : Nat) (z0 : List Int) (w : World) (w0 : IsRow .u8 w a0 len0 cap0 z0) :
    Calls Try.prog 10 #[.slice a0 len0 cap0] w fun e w' => e = .returned (.bool true) ∧ Below w.heap.size w w' := by
  obtain ⟨codes, hk1, hk2, hk3, hkB⟩ := IsRow.bytes w0
  clear w0
  have HK := Lib.hid hk1
  clear hk1
  go_enter Try.func10, Try.ntmps10
  go_wp2_with fail
  refine (awake30_any _).mono ?_
  rintro e w1 ⟨rfl, hb1⟩
  go_wp2_with fail
  refine (rlnew_any _).mono ?_
  rintro e v1 ⟨A1, c1, rfl, J1, hbn1⟩
  obtain ⟨W3, hW3, b3, k3, S3, r3⟩ := boxD w v1 #[.slice A1 1 c1, .slice none 0 0] 70 (Below.ext hb1 hbn1)
  go_upto_region 4 with (refine wpList_store_new rfl 70 _ _ rfl 70 _ #[.slice A1 1 c1, .slice none 0 0] rfl rfl (by kernel_rfl) rfl (by simp [Value.oneCell']) ?_)
  rw [← hW3]
  clear hW3
  obtain ⟨bj, hbj⟩ : ∃ bj, bj = v1.heap.size := ⟨_, rfl⟩
  rw [← hbj] at r3 S3 ⊢
  have hjW : bj < W3.heap.size := by have := S3.out; omega
  have hJ3 : Jrn (fun b => b ≠ bj) W3 A1 c1 none 0 0 [] [] [] 0 := ((J1.mono (S' := fun b => b < v1.heap.size) (fun b hb _ => hb)).ext k3).mono (fun b _ h => by omega)
  have hwj : w.heap.size ≤ bj := by have := (Below.ext hb1 hbn1).size; omega
  clear hbj S3 J1 hb1 hbn1 k3
  have hac := acts_any _ _ _ codes _ W3 (hkB.ext b3) true
  have Hac := Lib.hid hac
  clear hac
  go_wp2_with fail
  refine (Hac.out).mono ?_
  rintro e w6 ⟨A6, c6, acs, rfl, hal, hacts, hain, hb6⟩
  obtain ⟨nA, hnA⟩ : ∃ nA, acs.length = nA := ⟨_, rfl⟩
  rw [hnA] at hacts hal ⊢
  have HNA := Lib.hid hnA
  have HAIN := Lib.hid hain
  have RJ := Lib.hid ((hb6.block bj hjW).trans r3.out)
  have b6 := Below.ext b3 hb6
  have hA6 := hacts.mono (S' := fun b => b ≠ bj) (fun b _ h => by omega)
  have hJ6 := hJ3.ext hb6
  have hs6 := hb6.size
  obtain ⟨base, hbase⟩ : ∃ base, base = w6.heap.size := ⟨_, rfl⟩
  have hjb : bj < base := by omega
  have hb6' : base ≤ w6.heap.size := by omega
  clear hnA hain hb6 hacts hJ3 r3 Hac hs6 b3 hbase hjW
  go_wp2_with fail
  go_loopw [4, 6] (fun v i wr => ∃ (k : Nat) (A : Option Addr) (c : Nat) (B : Option Addr) (d : Nat) (Aw : Option Addr) (nw cw : Nat) (a : List Dt), i = .int .i64 (k : Int) ∧ v = .slice Aw nw cw ∧ k ≤ nA ∧ nw ≤ k ∧ wr.heap[bj]? = some (.cells #[.slice A 1 c, .slice B 0 d] 70 (0, 0)) ∧ OwnR encDt 9 wr base 38 (.slice Aw nw cw) a ∧ Jrn (fun b => b ≠ bj ∧ (Value.slice Aw nw cw).ownBlock ≠ some b) wr A c B 0 d a [] [] k ∧ Acts (fun b => b ≠ bj ∧ (Value.slice Aw nw cw).ownBlock ≠ some b) wr (.slice A6 nA c6) acs ∧ Below w.heap.size w wr ∧ base ≤ wr.heap.size) (fun _ i _ => nA - (intOf i).toNat)
  case atStart => exact ⟨0, A1, c1, none, 0, none, 0, 0, [], rfl, rfl, by omega, by omega, RJ.out, OwnR.nil_ _ _ _, hJ6.mono (fun b _ h => ⟨h, by intro e; cases e⟩), hA6.mono (fun b _ h => ⟨h, by intro e; cases e⟩), b6, hb6'⟩
  case round =>
    clear RJ hJ6 hA6 b6 hb6'
    obtain ⟨k, A, c, B, d, Aw, nw, cw, a, rfl, rfl, hk, hnw, hrj, how, hJ, hA, hb, hsz⟩ := hrel
    have HRJ := Lib.hid hrj
    clear hrj
    by_cases hlt : k < nA
    · have hacl := hA.len.2
      obtain ⟨ba, oa, x, t, rfl, hba, ht, hok, hca⟩ := hA.at_ hlt
      have hin := HAIN.out t (List.mem_of_getElem? ht)
      have HCA := Lib.hid hca
      have HKX := Lib.hid (show x.kind = (t.kind : Int) from hok.1)
      clear hca ht
      obtain ⟨W8, hW8, b8, k8, S8, r8⟩ := boxD w wr #[.int .i64 x.kind, .int .i64 x.d.proc, .int .i64 x.d.index, .int .i64 x.d.ev.k0, .int .i64 x.d.ev.k1, .int .i64 x.d.ev.k2, .int .i64 x.d.ev.k3, .int .i64 x.d.ev.k4, .int .i64 x.d.ev.k5, .int .i64 x.d.ev.k6, .int .i64 x.n, .int .i64 x.keep, .slice x.L x.nl x.cl] 77 hb
      go_upto_region 10 with (first | (refine wpList_ldv (t := 77) (A := ⟨ba, oa + k * 13, none⟩) rfl rfl rfl (ld_act (Below.refl _ _) hba HCA.out) ?_) | (refine wpList_store_new rfl 77 _ _ rfl 77 _ #[.int .i64 x.kind, .int .i64 x.d.proc, .int .i64 x.d.index, .int .i64 x.d.ev.k0, .int .i64 x.d.ev.k1, .int .i64 x.d.ev.k2, .int .i64 x.d.ev.k3, .int .i64 x.d.ev.k4, .int .i64 x.d.ev.k5, .int .i64 x.d.ev.k6, .int .i64 x.n, .int .i64 x.keep, .slice x.L x.nl x.cl] rfl rfl (by kernel_rfl) rfl (by simp [Value.oneCell']) ?_))
      rw [← hW8]
      clear hW8
      obtain ⟨bt, hbt⟩ : ∃ bt, bt = wr.heap.size := ⟨_, rfl⟩
      rw [← hbt] at r8 S8 ⊢
      have hbt1 : wr.heap.size ≤ bt := by omega
      have hbt2 : bt < W8.heap.size := by have := S8.out; omega
      have q0 : W8.cell? ⟨bt, 0, none⟩ = some (.int .i64 x.kind) := row_cell r8.out 0 _ rfl
      have HJ8 := Lib.hid ((k8.block bj (by omega)).trans HRJ.out)
      have hown : ∀ o, (Value.slice Aw nw cw).ownBlock = some o → base ≤ o ∧ o < wr.heap.size := fun o e => World.ownsRow.lt how o e
      have hJ0 := hJ.mono (S' := fun b => (b ≠ bj ∧ (Value.slice Aw nw cw).ownBlock ≠ some b) ∧ b < wr.heap.size) (fun b hb h => ⟨h, hb⟩)
      have hA0 := hA.mono (S' := fun b => (b ≠ bj ∧ (Value.slice Aw nw cw).ownBlock ≠ some b) ∧ b < wr.heap.size) (fun b hb h => ⟨h, hb⟩)
      have hok0 := hok.mono (S' := fun b => b < wr.heap.size) (fun b hb _ => hb)
      have hbj : bj < wr.heap.size := by omega
      clear hbt S8 hok hJ hA
      by_cases h5 : t.kind < 5
      · have d5 : decide (x.kind < 5) = true := by rw [HKX.out]; simp; omega
        have f0 : W8.frozen? ⟨bt, 0, none⟩ = false := frozen_of_row _ _ _ _ _ r8.out
        obtain ⟨W9, hW9⟩ : ∃ W9, W9 = W8.setCell ⟨bt, 0, none⟩ (.int .i64 4) := ⟨_, rfl⟩
        have g9 : W8.grownBy W9 (some bt) := by rw [hW9]; exact grown_set (grown_refl _ _)
        have r9 := Lib.hid (show W9.heap[bt]? = some (.cells #[.int .i64 4, .int .i64 x.d.proc, .int .i64 x.d.index, .int .i64 x.d.ev.k0, .int .i64 x.d.ev.k1, .int .i64 x.d.ev.k2, .int .i64 x.d.ev.k3, .int .i64 x.d.ev.k4, .int .i64 x.d.ev.k5, .int .i64 x.d.ev.k6, .int .i64 x.n, .int .i64 x.keep, .slice x.L x.nl x.cl] 77 (0, 0)) by rw [hW9]; exact heap_setCell_same _ _ _ _ _ _ r8.out)
        have z9 := g9.size
        have y9 : Below wr.heap.size wr W9 := Below.grow k8 g9 hbt1
        have b9 := Below.ext hb y9
        go_upto_region 12 with fail
        rw [← hW9]
        clear hW9 q0 f0
        have hx' : ActOk (fun b => b < wr.heap.size) W9 ⟨4, x.d, x.n, x.keep, x.L, x.nl, x.cl⟩ ⟨4, t.d, t.n, t.keep, t.lost⟩ := ActOk.ext (w := wr) ⟨rfl, hok0.2⟩ y9
        have hin' : ActIn true ⟨4, t.d, t.n, t.keep, t.lost⟩ := ⟨by show (4 : Nat) < 9; omega, hin.2⟩
        have RJW := Lib.hid ((y9.block bj hbj).trans HRJ.out)
        have hdo := do30_any A c B 0 d a [] [] k _ W9 (hJ0.ext y9) ⟨4, x.d, x.n, x.keep, x.L, x.nl, x.cl⟩ ⟨4, t.d, t.n, t.keep, t.lost⟩ _ hx' true hin' (by omega) (a ++ [t.d]) [] [] (Or.inr (Or.inl ⟨rfl, rfl, rfl, rfl⟩))
        have Hdo := Lib.hid hdo
        clear hdo
        go_wp2_with (first | (refine wpList_ldv (t := 70) (A := ⟨bj, 0, none⟩) rfl rfl rfl (ld_jrn RJW.out) ?_) | (refine wpList_load_row rfl 77 _ rfl _ rfl 77 _ (0,0) _ r9.out Try.underlying77 rfl (by kernel_rfl) ?_))
        refine Hdo.out.mono ?_
        rintro e v10 ⟨A2, c2, B2, n2, d2, rfl, hJ2, hb2⟩
        obtain rfl : n2 = 0 := by have := hJ2.len.1; simpa using this.symm
        have sW := y9.size
        have s10 := hb2.size
        obtain ⟨W11, hW11, b11, k11, S11, r11⟩ := boxD w v10 #[.slice A2 1 c2, .slice B2 0 d2] 70 (Below.ext b9 hb2)
        go_upto_region 15 with (refine wpList_store_new rfl 70 _ _ rfl 70 _ #[.slice A2 1 c2, .slice B2 0 d2] rfl rfl (by kernel_rfl) rfl (by simp [Value.oneCell']) ?_)
        rw [← hW11]
        clear hW11
        obtain ⟨px, hpx⟩ : ∃ px, px = v10.heap.size := ⟨_, rfl⟩
        rw [← hpx] at r11 ⊢
        have hpx1 : v10.heap.size ≤ px := by omega
        have hpx2 : px < W11.heap.size := by have := S11.out; omega
        have s11 := k11.size
        have y11 := Below.ext y9 (Below.ext hb2 k11)
        have RJ11 := Lib.hid ((y11.block bj hbj).trans HRJ.out)
        have RT11 := Lib.hid (((Below.ext hb2 k11).block bt (by omega)).trans r9.out)
        have hJ11 := (hJ2.mono (S' := fun b => b ≠ bj ∧ (Value.slice Aw nw cw).ownBlock ≠ some b) (fun b hb h => by
          rcases h with h | h
          · exact h.1
          · exact ⟨by omega, fun e => by have := hown b e; omega⟩)).ext k11
        obtain ⟨W12, hW12⟩ : ∃ W12, W12 = W11.setRow bj #[.slice A2 1 c2, .slice B2 0 d2] := ⟨_, rfl⟩
        have g12 : W11.grownBy W12 (some bj) := by rw [hW12]; exact grown_setRow _ _ _
        have RJ12 := Lib.hid (show W12.heap[bj]? = some (.cells #[.slice A2 1 c2, .slice B2 0 d2] 70 (0, 0)) by rw [hW12]; exact setRow_heap _ _ _ _ _ _ RJ11.out)
        have RT12 := Lib.hid ((g12.block bt (by omega) (by simp; omega)).trans RT11.out)
        have b12 : Below w.heap.size w W12 := by rw [hW12]; exact Below.setRow b11 (by omega) _
        have hJ12 := hJ11.keep (fun b hb h => g12.block b hb (by simp; exact h.1))
        have hA12 := ((hA0.ext y11).mono (S' := fun b => b ≠ bj ∧ (Value.slice Aw nw cw).ownBlock ≠ some b) (fun b _ h => h.1)).keep (fun b hb h => g12.block b hb (by simp; exact h.1))
        have hO12 := (how.ext y11).kept g12 (how.ne_ hjb)
        have s12 := g12.size
        have s12' := y11.size
        clear hpx S11
        go_upto_region 16 with (first | (refine wpList_load_row rfl 70 _ rfl _ rfl 70 _ (0,0) _ r11.out Try.underlying70 rfl (by kernel_rfl) ?_) | (refine wpList_store_row rfl 70 _ _ rfl bj 70 _ _ rfl rfl RJ11.out (by kernel_rfl) rfl (by simp [Value.oneCell']) ?_))
        rw [← hW12]
        clear hW12 hJ2 hJ11 r11 RT11 RJ11 g12 Hdo RJW
        have qk : W12.cell? ⟨bt, 0, none⟩ = some (.int .i64 4) := row_cell RT12.out 0 _ rfl
        have hlw := Lib.hid hO12.len.1
        have hxd : t.d = x.d := hok0.2.1.symm
        rw [hxd] at hJ12
        clear hxd
        have ha : Below W12.heap.size W12 (W12.alloc (.cells #[.int .i64 x.d.proc, .int .i64 x.d.index, .int .i64 x.d.ev.k0, .int .i64 x.d.ev.k1, .int .i64 x.d.ev.k2, .int .i64 x.d.ev.k3, .int .i64 x.d.ev.k4, .int .i64 x.d.ev.k5, .int .i64 x.d.ev.k6] 38)) := (Below.refl _ _).alloc (Nat.le_refl _) _
        have hone : Recs encDt (fun _ => True) (W12.alloc (.cells #[.int .i64 x.d.proc, .int .i64 x.d.index, .int .i64 x.d.ev.k0, .int .i64 x.d.ev.k1, .int .i64 x.d.ev.k2, .int .i64 x.d.ev.k3, .int .i64 x.d.ev.k4, .int .i64 x.d.ev.k5, .int .i64 x.d.ev.k6] 38)) (.slice (some ⟨W12.heap.size, 0, none⟩) 1 1) [x.d] := ⟨_, 1, rfl, by simp, by simp [maxLen], Cs.lit _ _ _ _ _ trivial rfl⟩
        have hasz := ha.size
        go_upto_region 18 with (first | (refine wpList_ldv (t := 38) (A := ⟨bt, 1, none⟩) rfl rfl rfl (ld_ad RT12.out) ?_) | (refine wpList_appR (o := ⟨some 45, _, _, _, _, _⟩) encDt_len encDt_one (.agg #[.int .i64 0, .int .i64 0, .int .i64 0, .int .i64 0, .int .i64 0, .int .i64 0, .int .i64 0, .int .i64 0, .int .i64 0]) 72 _ _ 27 38 base a [x.d] (some ⟨W12.heap.size, 0, none⟩) 1 1 (.slice Aw nw cw) (nw + 1) rfl rfl Try.underlying27 infoDt rfl (by omega) rfl rfl (hO12.ext ha) hone (by rw [hlw.out]) (by rw [hlw.out]; omega) (by rw [hlw.out]; omega) (by omega) ?_; intro Az cz wz hOf hgrz hatz hcz1 hcz2))
        have hown12 : ∀ o, (Value.slice Aw nw cw).ownBlock = some o → base ≤ o := fun o e => (hown o e).1
        have kz : Keep (fun b => (b ≠ bj ∧ (Value.slice Aw nw cw).ownBlock ≠ some b) ∧ b < (W12.alloc (.cells #[.int .i64 x.d.proc, .int .i64 x.d.index, .int .i64 x.d.ev.k0, .int .i64 x.d.ev.k1, .int .i64 x.d.ev.k2, .int .i64 x.d.ev.k3, .int .i64 x.d.ev.k4, .int .i64 x.d.ev.k5, .int .i64 x.d.ev.k6] 38)).heap.size) (W12.alloc (.cells #[.int .i64 x.d.proc, .int .i64 x.d.index, .int .i64 x.d.ev.k0, .int .i64 x.d.ev.k1, .int .i64 x.d.ev.k2, .int .i64 x.d.ev.k3, .int .i64 x.d.ev.k4, .int .i64 x.d.ev.k5, .int .i64 x.d.ev.k6] 38)) wz := fun b hb h => hgrz.block b hb (fun e => h.1.2 e.symm)
        have mz : ∀ b, ((b ≠ bj ∧ (Value.slice Aw nw cw).ownBlock ≠ some b) ∧ b < (W12.alloc (.cells #[.int .i64 x.d.proc, .int .i64 x.d.index, .int .i64 x.d.ev.k0, .int .i64 x.d.ev.k1, .int .i64 x.d.ev.k2, .int .i64 x.d.ev.k3, .int .i64 x.d.ev.k4, .int .i64 x.d.ev.k5, .int .i64 x.d.ev.k6] 38)).heap.size) → b ≠ bj ∧ (Value.slice Az (nw + 1) cz).ownBlock ≠ some b := fun b h => ⟨h.1.1, by
          rcases hatz with e | e
          · rw [e]; exact h.1.2
          · rw [e]; intro e2; cases e2; exact Nat.lt_irrefl _ h.2⟩
        have hJf := (((hJ12.ext ha).mono (fun b hb h => ⟨h, hb⟩)).keep kz).mono (fun b _ h => mz b h)
        have hAf := (((hA12.ext ha).mono (fun b hb h => ⟨h, hb⟩)).keep kz).mono (fun b _ h => mz b h)
        have RJf := Lib.hid ((hgrz.block bj (by omega) (fun e => by have := hown12 bj e.symm; omega)).trans ((ha.block bj (by omega)).trans RJ12.out))
        have bf : Below w.heap.size w wz := OwnR.grow (hO12.ext ha) hgrz (Below.ext b12 ha) (by omega) (by omega)
        have hszf : base ≤ wz.heap.size := by have := hgrz.size; omega
        clear kz mz hJ12 hA12 hO12 hone qk
        have hlf := Lib.hid hOf.len.1
        have hc := rlcontents_any A2 c2 B2 0 d2 (a ++ [x.d]) [] [] _ _ wz hJf (nw + 1) (by rw [List.append_nil]; exact hlf.out)
        have hs := fun x1 (zx : Below wz.heap.size wz x1) => rlstable_any A2 c2 B2 0 d2 (a ++ [x.d]) [] [] _ _ x1 (hJf.ext zx) (nw + 1) hlf.out
        simp only [List.append_nil, Nat.add_zero] at hc
        have Hc := Lib.hid hc
        have Hs := Lib.hid hs
        clear hc hs
        go_wp2_with (refine wpList_ldv (t := 70) (A := ⟨bj, 0, none⟩) rfl rfl rfl (ld_jrn RJf.out) ?_)
        refine Hc.out.mono ?_
        rintro e x1 ⟨Ax1, cx1, rfl, hx1, zx1⟩
        go_wp2_with fail
        refine (same27_eq _ _ _ _ _ (a ++ [x.d]) _ _ x1 hx1 (hOf.recs.ext zx1)).mono ?_
        rintro e x2 ⟨rfl, zx2⟩
        have y2 := Below.ext zx1 zx2
        have RJ2 := Lib.hid ((y2.block bj (by omega)).trans RJf.out)
        go_wp2_with (refine wpList_ldv (t := 70) (A := ⟨bj, 0, none⟩) rfl rfl rfl (ld_jrn RJ2.out) ?_)
        refine (Hs.out x2 y2).mono ?_
        rintro e x3 ⟨Ax3, cx3, rfl, hx3, zx3⟩
        have y3 := Below.ext y2 zx3
        go_wp2_with fail
        refine (same27_eq _ _ _ _ _ (a ++ [x.d]) _ _ x3 hx3 (hOf.recs.ext y3)).mono ?_
        rintro e x4 ⟨rfl, zx4⟩
        have y4 := Below.ext y3 zx4
        go_wp2_with fail
        refine ⟨⟨k + 1, A2, c2, B2, d2, Az, (nw + 1), cz, (a ++ [x.d]), by congr 1, rfl, by omega, by omega, (y4.block bj (by omega)).trans RJf.out, hOf.ext y4, hJf.ext y4, hAf.ext y4, Below.ext bf y4, by have := y4.size; omega⟩, by simp [intOf]; omega⟩
      · have d5 : decide (x.kind < 5) = false := by rw [HKX.out]; simp; omega
        go_upto_region 12 with fail
        have hcl : True := trivial
        obtain ⟨a2, b2, u2, hst⟩ := StepR.ex t hin.1 a [] []
        obtain ⟨e1, e2, e3⟩ := step_pess hin.1 h5 hst hJ0.ina
        rw [e1, e2, e3] at hst
        clear e1 e2 e3
        have hx' : ActOk (fun b => b < wr.heap.size) W8 x t := ActOk.ext hok0 k8
        have hin' : ActIn true t := hin
        have RJW := Lib.hid ((k8.block bj hbj).trans HRJ.out)
        have hdo := do30_any A c B 0 d a [] [] k _ W8 (hJ0.ext k8) x t _ hx' true hin' (by omega) a [] [] hst
        have Hdo := Lib.hid hdo
        clear hdo
        go_wp2_with (first | (refine wpList_ldv (t := 70) (A := ⟨bj, 0, none⟩) rfl rfl rfl (ld_jrn RJW.out) ?_) | (refine wpList_load_row rfl 77 _ rfl _ rfl 77 _ (0,0) _ r8.out Try.underlying77 rfl (by kernel_rfl) ?_))
        refine Hdo.out.mono ?_
        rintro e v10 ⟨A2, c2, B2, n2, d2, rfl, hJ2, hb2⟩
        obtain rfl : n2 = 0 := by have := hJ2.len.1; simpa using this.symm
        have sW := k8.size
        have s10 := hb2.size
        obtain ⟨W11, hW11, b11, k11, S11, r11⟩ := boxD w v10 #[.slice A2 1 c2, .slice B2 0 d2] 70 (Below.ext b8 hb2)
        go_upto_region 15 with (refine wpList_store_new rfl 70 _ _ rfl 70 _ #[.slice A2 1 c2, .slice B2 0 d2] rfl rfl (by kernel_rfl) rfl (by simp [Value.oneCell']) ?_)
        rw [← hW11]
        clear hW11
        obtain ⟨px, hpx⟩ : ∃ px, px = v10.heap.size := ⟨_, rfl⟩
        rw [← hpx] at r11 ⊢
        have hpx1 : v10.heap.size ≤ px := by omega
        have hpx2 : px < W11.heap.size := by have := S11.out; omega
        have s11 := k11.size
        have y11 := Below.ext k8 (Below.ext hb2 k11)
        have RJ11 := Lib.hid ((y11.block bj hbj).trans HRJ.out)
        have RT11 := Lib.hid (((Below.ext hb2 k11).block bt (by omega)).trans r8.out)
        have hJ11 := (hJ2.mono (S' := fun b => b ≠ bj ∧ (Value.slice Aw nw cw).ownBlock ≠ some b) (fun b hb h => by
          rcases h with h | h
          · exact h.1
          · exact ⟨by omega, fun e => by have := hown b e; omega⟩)).ext k11
        obtain ⟨W12, hW12⟩ : ∃ W12, W12 = W11.setRow bj #[.slice A2 1 c2, .slice B2 0 d2] := ⟨_, rfl⟩
        have g12 : W11.grownBy W12 (some bj) := by rw [hW12]; exact grown_setRow _ _ _
        have RJ12 := Lib.hid (show W12.heap[bj]? = some (.cells #[.slice A2 1 c2, .slice B2 0 d2] 70 (0, 0)) by rw [hW12]; exact setRow_heap _ _ _ _ _ _ RJ11.out)
        have RT12 := Lib.hid ((g12.block bt (by omega) (by simp; omega)).trans RT11.out)
        have b12 : Below w.heap.size w W12 := by rw [hW12]; exact Below.setRow b11 (by omega) _
        have hJ12 := hJ11.keep (fun b hb h => g12.block b hb (by simp; exact h.1))
        have hA12 := ((hA0.ext y11).mono (S' := fun b => b ≠ bj ∧ (Value.slice Aw nw cw).ownBlock ≠ some b) (fun b _ h => h.1)).keep (fun b hb h => g12.block b hb (by simp; exact h.1))
        have hO12 := (how.ext y11).kept g12 (how.ne_ hjb)
        have s12 := g12.size
        have s12' := y11.size
        clear hpx S11
        go_upto_region 16 with (first | (refine wpList_load_row rfl 70 _ rfl _ rfl 70 _ (0,0) _ r11.out Try.underlying70 rfl (by kernel_rfl) ?_) | (refine wpList_store_row rfl 70 _ _ rfl bj 70 _ _ rfl rfl RJ11.out (by kernel_rfl) rfl (by simp [Value.oneCell']) ?_))
        rw [← hW12]
        clear hW12 hJ2 hJ11 r11 RT11 RJ11 g12 Hdo RJW
        have qk : W12.cell? ⟨bt, 0, none⟩ = some (.int .i64 x.kind) := row_cell RT12.out 0 _ rfl
        have hlw := Lib.hid hO12.len.1
        have d4 : (x.kind == 4) = false := by rw [HKX.out]; simp; omega
        go_upto_region 18 with fail
        have hJf := hJ12
        have hAf := hA12
        have hOf := hO12
        have RJf := RJ12
        have bf := b12
        have hszf : base ≤ W12.heap.size := by omega
        clear qk
        have hlf := Lib.hid hOf.len.1
        have hc := rlcontents_any A2 c2 B2 0 d2 a [] [] _ _ W12 hJf nw (by rw [List.append_nil]; exact hlf.out)
        have hs := fun x1 (zx : Below W12.heap.size W12 x1) => rlstable_any A2 c2 B2 0 d2 a [] [] _ _ x1 (hJf.ext zx) nw hlf.out
        simp only [List.append_nil, Nat.add_zero] at hc
        have Hc := Lib.hid hc
        have Hs := Lib.hid hs
        clear hc hs
        go_wp2_with (refine wpList_ldv (t := 70) (A := ⟨bj, 0, none⟩) rfl rfl rfl (ld_jrn RJf.out) ?_)
        refine Hc.out.mono ?_
        rintro e x1 ⟨Ax1, cx1, rfl, hx1, zx1⟩
        go_wp2_with fail
        refine (same27_eq _ _ _ _ _ a _ _ x1 hx1 (hOf.recs.ext zx1)).mono ?_
        rintro e x2 ⟨rfl, zx2⟩
        have y2 := Below.ext zx1 zx2
        have RJ2 := Lib.hid ((y2.block bj (by omega)).trans RJf.out)
        go_wp2_with (refine wpList_ldv (t := 70) (A := ⟨bj, 0, none⟩) rfl rfl rfl (ld_jrn RJ2.out) ?_)
        refine (Hs.out x2 y2).mono ?_
        rintro e x3 ⟨Ax3, cx3, rfl, hx3, zx3⟩
        have y3 := Below.ext y2 zx3
        go_wp2_with fail
        refine (same27_eq _ _ _ _ _ a _ _ x3 hx3 (hOf.recs.ext y3)).mono ?_
        rintro e x4 ⟨rfl, zx4⟩
        have y4 := Below.ext y3 zx4
        go_wp2_with fail
        refine ⟨⟨k + 1, A2, c2, B2, d2, Aw, nw, cw, a, by congr 1, rfl, by omega, by omega, (y4.block bj (by omega)).trans RJf.out, hOf.ext y4, hJf.ext y4, hAf.ext y4, Below.ext bf y4, by have := y4.size; omega⟩, by simp [intOf]; omega⟩
    · obtain rfl : k = nA := by omega
      go_wp2
      go_ret
      exact ⟨rfl, hb⟩
end Go.Proofs.Ytjcfnpmgklliiaa.receiverlogPessimistic
