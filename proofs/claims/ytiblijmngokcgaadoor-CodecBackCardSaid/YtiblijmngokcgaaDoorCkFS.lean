import Derived.Test.YtiblijmngokcgaaDoorCkES
namespace Go.Proofs.YtiblijmngokcgaaDoor
open Go.RowKit
set_option maxRecDepth 100000
set_option linter.unusedVariables false
set_option linter.unusedSimpArgs false
def DeclOk (n : Nat) : Prop := ∀ (A : Option Addr) (m c : Nat) (ts : List Sm) (w : World) (V : Nat) (i s k : Int), 1 ≤ s → s ≤ 5 → w.heap[V]? = some (.cells (varCells i s k) 126 (0, 0)) → SmL n w (.slice A m c) ts → (∀ s ∈ ts, NmS n s) →
  Calls Tryd.prog 62 #[.slice (some ⟨V, 0, none⟩) 5 5, .slice A m c] w fun e w' => e = .returned (.bool true) ∧ Below w.heap.size w w'
set_option maxHeartbeats 8000000 in
theorem decl_step (n : Nat) (ih : ∀ k, k < n → DeclOk k) : DeclOk n := by
  intro A m c ts w V i s k0 hs1 hs5 hV hL hrs
  have HL := Lib.hid hL.len.1
  have hlc := hL.len.2
  have HRS := Lib.hid hrs
  have HIH := Lib.hid ih
  have hVl : V < w.heap.size := (Array.getElem?_eq_some_iff.1 hV).1
  have HVV := Lib.hid (fun (w' : World) (hb : Below w.heap.size w w') => (hb.block V hVl).trans hV)
  clear hrs ih hV
  go_enter Tryd.func62, Tryd.ntmps62
  go_wp2
  go_loopw [5] (fun b wr => ∃ (k : Nat), b = .int .i64 k ∧ k ≤ m ∧ Below w.heap.size w wr) (fun b _ => m - (intOf b).toNat)
  case atStart => exact ⟨0, rfl, by omega, Below.refl _ _⟩
  case round =>
    obtain ⟨k, rfl, hk, hb⟩ := hrel
    by_cases hlt : k < m
    · obtain ⟨ba, oa, x, t, rfl, hSb, hba, ht, hok, hcx⟩ := hL.at_ encSm_len (j := k) hlt (by omega)
      cases n with
      | zero => exact hok.elim
      | succ n =>
        have hrt := HRS.out t (List.mem_of_getElem? ht)
        obtain ⟨kind, name, slot, size, place, value, body, els⟩ := t
        obtain ⟨rfl, rfl, rfl, rfl, hpl, hvl, hbd, hel⟩ := hok
        obtain ⟨hkd, hsl, hsz, npl, nvl, nnm, nbd, nel⟩ := hrt
        have HC := Lib.hid (fun (w' : World) (h : Below wr.heap.size wr w') i u h2 => ((Below.ext hb h).cell (p := ⟨ba, oa + k * 18 + i, none⟩) hba).trans (hcx i u h2))
        have up := fun (w' : World) (h : Below wr.heap.size wr w') => (Keep.of_below (Below.ext hb h) : Keep (· < w.heap.size) w w')
        have HP := Lib.hid (fun (w' : World) (h : Below wr.heap.size wr w') => names_any 3 x.p place _ w' V i s k0 hs1 hs5 (HVV.out w' (Below.ext hb h)) (ExOk.keep (up w' h) _ _ _ hpl) npl)
        have HV := Lib.hid (fun (w' : World) (h : Below wr.heap.size wr w') => names_any 3 x.v value _ w' V i s k0 hs1 hs5 (HVV.out w' (Below.ext hb h)) (ExOk.keep (up w' h) _ _ _ hvl) nvl)
        have HB := Lib.hid (fun (w' : World) (h : Below wr.heap.size wr w') => HIH.out n (by omega) x.A x.n x.c body w' V i s k0 hs1 hs5 (HVV.out w' (Below.ext hb h)) (SmL.ext hbd (Below.ext hb h)) nbd)
        have HE := Lib.hid (fun (w' : World) (h : Below wr.heap.size wr w') => HIH.out n (by omega) x.B x.m x.d els w' V i s k0 hs1 hs5 (HVV.out w' (Below.ext hb h)) (SmL.ext hel (Below.ext hb h)) nel)
        have nm6 : isScal x.name ∨ isArr x.name ∨ x.name = ByteArray.mk #[] := by
          rcases nnm with h | h | h
          · exact .inl h.2
          · exact .inr (.inl h.2)
          · exact .inr (.inr h.2)
        have HK := Lib.hid (lookup_any wr V i s k0 hs1 hs5 (HVV.out wr hb) x.name nm6)
        have NNM := Lib.hid nnm
        have q1 : wr.cell? ⟨ba, oa + k * 18 + 1, none⟩ = some (.string x.name) := HC.out wr (Below.refl _ _) 1 _ rfl
        clear up hpl hvl hbd hel hcx ht hL nnm nm6
        go_upto_region 5 with fail
        go_wp2_with fail
        refine HK.out.mono ?_
        rintro e w1 ⟨a, b, ok, rfl, hout, b1⟩
        have c0 : w1.cell? ⟨ba, oa + k * 18, none⟩ = some (.int .i64 x.kind) := HC.out w1 b1 0 _ rfl
        rcases NNM.out with ⟨kk, g⟩ | ⟨kk, g⟩ | ⟨kk, g⟩
        · rw [kk] at c0
          obtain rfl : ok = true := (hout.2.2.1 g).2
          clear kk
          go_wp2_with (refine wpList_ldv (t := 145) (A := ⟨ba, oa + k * 18 + 4, none⟩) rfl rfl rfl (ld_smP (HC.out w1 b1)) ?_)
          refine (HP.out _ b1).mono ?_
          rintro e w2 ⟨rfl, b2⟩
          have y2 := Below.ext b1 b2
          go_wp2_with (refine wpList_ldv (t := 145) (A := ⟨ba, oa + k * 18 + 10, none⟩) rfl rfl rfl (ld_smV (HC.out w2 y2)) ?_)
          refine (HV.out _ y2).mono ?_
          rintro e w3 ⟨rfl, b3⟩
          have y3 := Below.ext y2 b3
          have c3 : w3.cell? ⟨ba, oa + k * 18 + 16, none⟩ = some (.slice x.A x.n x.c) := HC.out w3 y3 16 _ rfl
          go_wp2_with fail
          refine (HB.out _ y3).mono ?_
          rintro e w4 ⟨rfl, b4⟩
          have y4 := Below.ext y3 b4
          have c4 : w4.cell? ⟨ba, oa + k * 18 + 17, none⟩ = some (.slice x.B x.m x.d) := HC.out w4 y4 17 _ rfl
          go_wp2_with fail
          refine (HE.out _ y4).mono ?_
          rintro e w5 ⟨rfl, b5⟩
          go_wp2
          go_roundw
          case rel => exact ⟨k + 1, by go_num, by omega, Below.ext hb (Below.ext y4 b5)⟩
          case measure => simp [intOf]; omega
        · rw [kk] at c0
          obtain rfl : ok = true := (hout.2.2.2 g).2
          clear kk
          go_wp2_with (refine wpList_ldv (t := 145) (A := ⟨ba, oa + k * 18 + 4, none⟩) rfl rfl rfl (ld_smP (HC.out w1 b1)) ?_)
          refine (HP.out _ b1).mono ?_
          rintro e w2 ⟨rfl, b2⟩
          have y2 := Below.ext b1 b2
          go_wp2_with (refine wpList_ldv (t := 145) (A := ⟨ba, oa + k * 18 + 10, none⟩) rfl rfl rfl (ld_smV (HC.out w2 y2)) ?_)
          refine (HV.out _ y2).mono ?_
          rintro e w3 ⟨rfl, b3⟩
          have y3 := Below.ext y2 b3
          have c3 : w3.cell? ⟨ba, oa + k * 18 + 16, none⟩ = some (.slice x.A x.n x.c) := HC.out w3 y3 16 _ rfl
          go_wp2_with fail
          refine (HB.out _ y3).mono ?_
          rintro e w4 ⟨rfl, b4⟩
          have y4 := Below.ext y3 b4
          have c4 : w4.cell? ⟨ba, oa + k * 18 + 17, none⟩ = some (.slice x.B x.m x.d) := HC.out w4 y4 17 _ rfl
          go_wp2_with fail
          refine (HE.out _ y4).mono ?_
          rintro e w5 ⟨rfl, b5⟩
          go_wp2
          go_roundw
          case rel => exact ⟨k + 1, by go_num, by omega, Below.ext hb (Below.ext y4 b5)⟩
          case measure => simp [intOf]; omega
        · have e2 : (x.kind == 1) = false := by simp; omega
          have e3 : (x.kind == 2) = false := by simp; omega
          go_wp2_with (refine wpList_ldv (t := 145) (A := ⟨ba, oa + k * 18 + 4, none⟩) rfl rfl rfl (ld_smP (HC.out w1 b1)) ?_)
          refine (HP.out _ b1).mono ?_
          rintro e w2 ⟨rfl, b2⟩
          have y2 := Below.ext b1 b2
          go_wp2_with (refine wpList_ldv (t := 145) (A := ⟨ba, oa + k * 18 + 10, none⟩) rfl rfl rfl (ld_smV (HC.out w2 y2)) ?_)
          refine (HV.out _ y2).mono ?_
          rintro e w3 ⟨rfl, b3⟩
          have y3 := Below.ext y2 b3
          have c3 : w3.cell? ⟨ba, oa + k * 18 + 16, none⟩ = some (.slice x.A x.n x.c) := HC.out w3 y3 16 _ rfl
          go_wp2_with fail
          refine (HB.out _ y3).mono ?_
          rintro e w4 ⟨rfl, b4⟩
          have y4 := Below.ext y3 b4
          have c4 : w4.cell? ⟨ba, oa + k * 18 + 17, none⟩ = some (.slice x.B x.m x.d) := HC.out w4 y4 17 _ rfl
          go_wp2_with fail
          refine (HE.out _ y4).mono ?_
          rintro e w5 ⟨rfl, b5⟩
          go_wp2
          go_roundw
          case rel => exact ⟨k + 1, by go_num, by omega, Below.ext hb (Below.ext y4 b5)⟩
          case measure => simp [intOf]; omega
    · obtain rfl : k = m := by omega
      go_wp2
      go_ret
      exact ⟨rfl, hb⟩
theorem decl_any : ∀ (n : Nat), DeclOk n := fun n => Nat.strongRecOn n fun n ih => decl_step n ih
end Go.Proofs.YtiblijmngokcgaaDoor
