/-
  The walk of the law WalTorn: it returns true and writes nothing that was there. Conditions: what the row says of its arguments.
-/
import Derived.Test.YtjcfnpmgklliiaaWalJ
import Derived.WalkKit
import Derived.ProofKit
import Derived.OpenShut
import Derived.ShutString
import Derived.Below
namespace Go.Proofs.Ytjcfnpmgklliiaa.walTorn
open Go.ChangeShapes Go.WideShapes Go.ChangeAt Go.RowKit
open Go.ChangeMaps (open_string shut_string)
set_option linter.unusedVariables false
set_option maxRecDepth 100000

set_option maxHeartbeats 4000000 in
theorem walk (a0 : Option Addr) (len0 cap0 : Nat) (z0 : List Int) (a1 : Int) (a2 : Option Addr) (len2 cap2 : Nat) (z2 : List Int) (w : World) (w0 : IsRow .u8 w a0 len0 cap0 z0) (w1 : (Lit.int .i64 a1).wf = true) (w2 : IsRow .i64 w a2 len2 cap2 z2) :
    Calls Try.prog 7 #[.slice a0 len0 cap0, .int .i64 a1, .slice a2 len2 cap2] w fun e w' => e = .returned (.bool true) ∧ Below w.heap.size w w' := by
  obtain ⟨codes, hk1, hk2, hk3, hkB⟩ := IsRow.bytes w0
  have hn := wf_i64 w1
  obtain ⟨lost, hl1, hl2, hl3, hlB, hlin⟩ := IsRow.zin_ w2
  clear w0 w1 w2
  have HK := Lib.hid hk1
  have HLI := Lib.hid hlin
  have HL := Lib.hid hl1
  clear hk1 hlin hl1
  go_enter Try.func7, Try.ntmps7
  go_wp2_with fail
  refine (awake12_any _).mono ?_
  rintro e w1 ⟨rfl, hb1⟩
  by_cases hlen : len2 ≤ 20
  · have dl : decide (20 < len2) = false := by simpa using hlen
    have dl' : decide ((20 : Int) < (len2 : Int)) = false := by simp; omega
    have hcn := codnew_any _ codes _ w1 240 (by omega) (hkB.ext hb1)
    rw [show ((240 : Nat) : Int) = 240 from rfl] at hcn
    have Hcn := Lib.hid hcn
    clear hcn
    go_wp2_with fail
    refine (Hcn.out).mono ?_
    rintro e w2 ⟨g, rfl, hC2, hb2⟩
    have b2 := Below.ext hb1 hb2
    have hnew := new_ok 1 (by omega) w2
    rw [show ((1 : Nat) : Int) = 1 from rfl] at hnew
    have Hnew := Lib.hid hnew
    clear hnew
    go_wp2_with fail
    refine (Hnew.out).mono ?_
    rintro e w3 ⟨A3, c3, rfl, hD3, hb3⟩
    have b3 := Below.ext b2 hb3
    obtain ⟨W4, hW4, b4, k4, S4, r4⟩ := boxD w w3 #[.slice A3 1 c3] 45 b3
    go_upto_region 7 with (refine wpList_store_new rfl 45 _ _ rfl 45 _ #[.slice A3 1 c3] rfl rfl (by kernel_rfl) rfl (by simp [Value.oneCell']) ?_)
    rw [← hW4]
    clear hW4
    obtain ⟨bx, hbx⟩ : ∃ bx, bx = w3.heap.size := ⟨_, rfl⟩
    rw [← hbx] at r4 S4 ⊢
    have hC4 := hC2.ext (Below.ext hb3 k4)
    have hgx : g < bx := by have := hC2.lt; have := hb3.size; omega
    have hwg : w.heap.size ≤ g := by have := hC2.1; have := hb1.size; omega
    have hD4 : Dsk (fun b => b ≠ g ∧ b ≠ bx) W4 (.slice A3 1 c3) [⟨[], []⟩] := (hD3.mono (fun b hb h => ⟨by have := hC2.lt; omega, by omega⟩)).ext k4
    have s4 := S4.out
    clear S4 hD3 hC2 hbx hb3 b3 b2 hb2 k4
    have hcd := coddets_any w1.heap.size g 4 W4 hC4 (by omega)
    rw [show ((4 : Nat) : Int) = 4 from rfl] at hcd
    have Hcd := Lib.hid hcd
    clear hcd
    go_wp2_with fail
    refine (Hcd.out).mono ?_
    rintro e w5 ⟨A5, c5, safe, rfl, hls, hins, hO5, hC5, hg5⟩
    have hcd := coddets_any w1.heap.size g 6 w5 hC5 (by omega)
    rw [show ((6 : Nat) : Int) = 6 from rfl] at hcd
    have Hcd := Lib.hid hcd
    clear hcd
    go_wp2_with fail
    refine (Hcd.out).mono ?_
    rintro e w6 ⟨A6, c6, more, rfl, hlm, hinm, hO6, hC6, hg6⟩
    have s5 := hg5.size
    have s6 := hg6.size
    have R6 := Lib.hid ((hg6.block bx (by omega) (by simp; omega)).trans ((hg5.block bx (by omega) (by simp; omega)).trans r4.out))
    have hD6 := ((hD4.keep (fun b hb h => hg5.block b hb (by simpa using h.1))).keep (fun b hb h => hg6.block b hb (by simpa using h.1))).mono (S' := fun b => b ≠ bx) (fun b _ h => h.2)
    have hS6 := ((hO5.recs.mono (S' := fun b => b ≠ g ∧ b ≠ bx) (fun b _ h => ⟨by omega, by omega⟩)).keep (fun b hb h => hg6.block b hb (by simpa using h.1))).mono (S' := fun b => b ≠ bx) (fun b _ h => h.2)
    have hM6 := hO6.recs.mono (S' := fun b => b ≠ bx) (fun b _ h => by omega)
    have b6 : Below w.heap.size w w6 := below_of_grown (below_of_grown b4 hg5 hwg) hg6 hwg
    have hfs := frL_le safe hins 4 hls
    have hfm := frL_le more hinm 6 hlm
    obtain ⟨ns, hns⟩ : ∃ ns, safe.length = ns := ⟨_, rfl⟩
    obtain ⟨nm, hnm⟩ : ∃ nm, more.length = nm := ⟨_, rfl⟩
    rw [hns] at hS6 hls ⊢
    rw [hnm] at hM6 hlm ⊢
    have HNS := Lib.hid hns
    have HNM := Lib.hid hnm
    have hwbx : w.heap.size ≤ bx := by omega
    have hbx6 : bx < w6.heap.size := by omega
    clear hns hnm hO5 hO6 hg5 hg6 hC4 hC5 hC6 hD4 r4 b4 Hcd Hnew Hcn
    have hap := walappend_go A3 1 c3 [⟨[], []⟩] _ w6 hD6 (by omega) 0 A5 ns c5 safe _ hS6 hins (by omega) (fun f hf => by simp only [List.mem_singleton] at hf; subst hf; simp only [flen, List.length_nil]; omega) [⟨[], frL safe⟩] 1 0 (.inl ⟨0, _, rfl, rfl, rfl, rfl, rfl⟩)
    have Hap := Lib.hid hap
    clear hap
    go_wp2_with (refine wpList_load_row rfl 45 _ rfl _ rfl 45 _ (0,0) _ R6.out Try.underlying45 rfl (by kernel_rfl) ?_)
    refine Hap.out.mono ?_
    rintro e w7 ⟨A7, c7, rfl, hD7, hb7⟩
    have sxW8 := hb7.size
    have HKW8 := Lib.hid ((hb7.block bx (by omega)).trans R6.out)
    obtain ⟨W8, hqW8⟩ : ∃ W, W = w7.setRow bx #[.slice A7 1 c7] := ⟨_, rfl⟩
    have hgW8 : w7.grownBy W8 (some bx) := by rw [hqW8]; exact grown_setRow _ _ _
    have szW8 : W8.heap.size = w7.heap.size := by rw [hqW8]; exact setRow_size _ _ _
    have R8 := Lib.hid (show W8.heap[bx]? = some (.cells #[.slice A7 1 c7] 45 (0, 0)) by rw [hqW8]; exact setRow_heap _ _ _ _ _ _ HKW8.out)
    have b8 : Below w.heap.size w W8 := by rw [hqW8]; exact Below.setRow (Below.ext b6 hb7) (by omega) _
    have hD8 := (hD7.mono (S' := fun b => b ≠ bx) (fun b _ h => by rcases h with h | h <;> omega)).keep (fun b hb h => hgW8.block b hb (by simpa using h))
    have hS8 := (hS6.ext hb7).keep (fun b hb h => hgW8.block b hb (by simpa using h))
    have hM8 := (hM6.ext hb7).keep (fun b hb h => hgW8.block b hb (by simpa using h))
    go_upto_region 9 with (refine wpList_store_row rfl 45 _ _ rfl bx 45 _ _ rfl rfl HKW8.out (by kernel_rfl) rfl (by simp [Value.oneCell']) ?_)
    rw [← hqW8]
    clear hqW8 hgW8 HKW8 hD7 hb7
    have hsy := sync_ok A7 1 c7 [⟨[], frL safe⟩] _ W8 hD8 (by omega) 0 _ rfl (by show ([] : List UInt8).length + (frL safe).length ≤ 10000000; rw [List.length_nil]; omega)
    rw [show ((0 : Nat) : Int) = 0 from rfl] at hsy
    have Hsy := Lib.hid hsy
    clear hsy
    go_wp2_with (refine wpList_load_row rfl 45 _ rfl _ rfl 45 _ (0,0) _ R8.out Try.underlying45 rfl (by kernel_rfl) ?_)
    refine Hsy.out.mono ?_
    rintro e w9 ⟨A9, c9, rfl, hD9, hb9⟩
    have sxW10 := hb9.size
    have HKW10 := Lib.hid ((hb9.block bx (by omega)).trans R8.out)
    obtain ⟨W10, hqW10⟩ : ∃ W, W = w9.setRow bx #[.slice A9 1 c9] := ⟨_, rfl⟩
    have hgW10 : w9.grownBy W10 (some bx) := by rw [hqW10]; exact grown_setRow _ _ _
    have szW10 : W10.heap.size = w9.heap.size := by rw [hqW10]; exact setRow_size _ _ _
    have R10 := Lib.hid (show W10.heap[bx]? = some (.cells #[.slice A9 1 c9] 45 (0, 0)) by rw [hqW10]; exact setRow_heap _ _ _ _ _ _ HKW10.out)
    have b10 : Below w.heap.size w W10 := by rw [hqW10]; exact Below.setRow (Below.ext b8 hb9) (by omega) _
    have hD10 := (hD9.mono (S' := fun b => b ≠ bx) (fun b _ h => by rcases h with h | h <;> omega)).keep (fun b hb h => hgW10.block b hb (by simpa using h))
    have hS10 := (hS8.ext hb9).keep (fun b hb h => hgW10.block b hb (by simpa using h))
    have hM10 := (hM8.ext hb9).keep (fun b hb h => hgW10.block b hb (by simpa using h))
    go_upto_region 10 with (refine wpList_store_row rfl 45 _ _ rfl bx 45 _ _ rfl rfl HKW10.out (by kernel_rfl) rfl (by simp [Value.oneCell']) ?_)
    rw [← hqW10]
    clear hqW10 hgW10 HKW10 hD9 hb9
    have hap := walappend_go A9 1 c9 [⟨frL safe, []⟩] _ W10 hD10 (by omega) 0 A6 nm c6 more _ hM10 hinm (by omega) (fun f hf => by simp only [List.mem_singleton] at hf; subst hf; simp only [flen, List.length_nil]; omega) [⟨frL safe, frL more⟩] 1 0 (.inl ⟨0, _, rfl, rfl, rfl, rfl, rfl⟩)
    have Hap := Lib.hid hap
    clear hap
    go_wp2_with (refine wpList_load_row rfl 45 _ rfl _ rfl 45 _ (0,0) _ R10.out Try.underlying45 rfl (by kernel_rfl) ?_)
    refine Hap.out.mono ?_
    rintro e w11 ⟨A11, c11, rfl, hD11, hb11⟩
    have sxW12 := hb11.size
    have HKW12 := Lib.hid ((hb11.block bx (by omega)).trans R10.out)
    obtain ⟨W12, hqW12⟩ : ∃ W, W = w11.setRow bx #[.slice A11 1 c11] := ⟨_, rfl⟩
    have hgW12 : w11.grownBy W12 (some bx) := by rw [hqW12]; exact grown_setRow _ _ _
    have szW12 : W12.heap.size = w11.heap.size := by rw [hqW12]; exact setRow_size _ _ _
    have R12 := Lib.hid (show W12.heap[bx]? = some (.cells #[.slice A11 1 c11] 45 (0, 0)) by rw [hqW12]; exact setRow_heap _ _ _ _ _ _ HKW12.out)
    have b12 : Below w.heap.size w W12 := by rw [hqW12]; exact Below.setRow (Below.ext b10 hb11) (by omega) _
    have hD12 := (hD11.mono (S' := fun b => b ≠ bx) (fun b _ h => by rcases h with h | h <;> omega)).keep (fun b hb h => hgW12.block b hb (by simpa using h))
    have hS12 := (hS10.ext hb11).keep (fun b hb h => hgW12.block b hb (by simpa using h))
    have hM12 := (hM10.ext hb11).keep (fun b hb h => hgW12.block b hb (by simpa using h))
    go_upto_region 13 with (refine wpList_store_row rfl 45 _ _ rfl bx 45 _ _ rfl rfl HKW12.out (by kernel_rfl) rfl (by simp [Value.oneCell']) ?_)
    rw [← hqW12]
    clear hqW12 hgW12 HKW12 hD11 hb11
    clear Hap Hsy b6 b8 b10 hS6 hM6 hS8 hM8 hS10 hM10 hD6 hD8 hD10
    go_wp2_with fail
    go_loopw [15, 75] (fun v i wr => ∃ (k : Nat) (A' : Option Addr) (c' : Nat) (acc : List Int), i = .int .i64 (k : Int) ∧ k ≤ len2 ∧ v = .slice A' k c' ∧ OwnR encZ 1 wr W12.heap.size 3 (.slice A' k c') acc ∧ Below W12.heap.size W12 wr) (fun _ i _ => len2 - (intOf i).toNat)
    case atStart => exact ⟨0, none, 0, [], rfl, by omega, rfl, OwnR.nil_ _ _ _, Below.refl _ _⟩
    case round =>
      obtain ⟨k, A', c', acc, rfl, hk, rfl, hown, hbr⟩ := hrel
      by_cases hlt : k < len2
      · have hLr := hlB.ext (Below.ext b12 hbr)
        obtain ⟨b, off, x, rfl, _, hblt, hx, hcx⟩ := hLr.at_ encZ_len (j := k) (by rw [HL.out]; exact hlt) (by omega)
        have hxi := HLI.out x (List.mem_of_getElem? hx)
        have q0 := hcx 0 _ rfl
        rw [Nat.mul_one, Nat.add_zero] at q0
        clear hcx hx hLr
        go_wp2_with fail
        refine (mod_any _ _ _ (by omega) (by omega) hxi.1 hxi.2).mono ?_
        rintro e wq ⟨rfl, rfl⟩
        have ha : Below wr.heap.size wr (wr.alloc (.cells #[.int .i64 (x % 20)] 3)) := (Below.refl _ _).alloc (Nat.le_refl _) _
        have hone : Recs encZ (fun _ => True) (wr.alloc (.cells #[.int .i64 (x % 20)] 3)) (.slice (some ⟨wr.heap.size, 0, none⟩) 1 1) [x % 20] := ⟨_, 1, rfl, by simp, by simp [maxLen], Cs.lit _ _ _ _ _ trivial rfl⟩
        have hl5 := Lib.hid hown.len.1
        have hzr := hbr.size
        go_wp2_with (refine wpList_appR (o := ⟨some 83, _, _, _, _, _⟩) encZ_len encZ_one (.int .i64 0) 8 _ _ 46 3 W12.heap.size acc [x % 20] (some ⟨wr.heap.size, 0, none⟩) 1 1 (.slice A' k c') (k + 1) rfl rfl Try.underlying46 infoIn rfl (by omega) rfl rfl (hown.ext ha) hone (by rw [hl5.out]) (by have := hl5.out; omega) (by have := hl5.out; omega) (by simp; omega) ?_; intro Aq cq wz hownq hgrq hatq hcq1 hcq2)
        refine ⟨⟨k + 1, Aq, cq, _, by congr 1, by omega, rfl, hownq, OwnR.grow (hown.ext ha) hgrq (Below.ext hbr ha) (Nat.le_refl _) (by simp; omega)⟩, by simp [intOf]; omega⟩
      · obtain rfl : k = len2 := by omega
        have b13 := Below.ext b12 hbr
        have hS13 := hS12.ext hbr
        have hM13 := hM12.ext hbr
        have hD13 := hD12.ext hbr
        have szr := hbr.size
        have R13 := Lib.hid ((hbr.block bx (by omega)).trans R12.out)
        have hN13 := hown.recs.mono (S' := fun _ => True) (fun _ _ _ => trivial)
        have hlN := Lib.hid hown.len.1
        clear hown hbr hS12 hM12 hD12 R12
        go_wp2_with fail
        refine (refframes_any A6 nm c6 more _ wr hM13 hinm (by omega)).mono ?_
        rintro e w14 ⟨A14, c14, rfl, hP14, hb14⟩
        obtain ⟨np, hnp⟩ : ∃ np, (frL more).length = np := ⟨_, rfl⟩
        rw [hnp] at hP14 hfm ⊢
        have HNP := Lib.hid hnp
        clear hnp
        go_wp2_with fail
        refine (mod_any _ _ _ (by omega) (by omega) hn.1 hn.2).mono ?_
        rintro e wq ⟨rfl, rfl⟩
        go_wp2_with fail
        refine (torn_any A14 np c14 (frL more) _ (a1 % 500) A' k c' acc _ w14 hP14.bytes.by_ (hN13.ext hb14) (by omega) (by omega)).mono ?_
        rintro e w15 ⟨A15, c15, rfl, hT15, hb15⟩
        obtain ⟨T, hT⟩ : ∃ T, tornL (frL more) (a1 % 500) acc = T := ⟨_, rfl⟩
        have hkn := keepN_le (frL more) (a1 % 500)
        rw [HNP.out] at hkn
        obtain ⟨nt, hnt⟩ : ∃ nt, keepN (frL more) (a1 % 500) = nt := ⟨_, rfl⟩
        rw [hT] at hT15
        rw [hnt] at hT15 hkn ⊢
        have HT := Lib.hid hT
        have hTl := Lib.hid hT15.recs.len.1
        have k15 := Below.ext hb14 hb15
        have b15 := Below.ext b13 k15
        have hTb : Bytes (fun _ => True) w15 (.slice A15 nt c15) T := hT15.recs.bytes.mono (fun _ _ _ => trivial)
        have hM15 := hM13.ext k15
        clear hT hnt hT15 hP14
        go_upto_block 2 with fail
        go_cut [21] from 95 (fun s21 wx => ∃ i : Nat, s21 = .int .i64 (i : Int) ∧ i ≤ nm ∧ WholeR (frL safe ++ T) (safe ++ more.take i) ∧ Below w15.heap.size w15 wx)
        case first =>
          go_wp2_with fail
          go_loopw [20, 21, 95] (fun s20 s21 s95 wr => ∃ (i na : Nat), s95 = .int .i64 (i : Int) ∧ s21 = .int .i64 (i : Int) ∧ s20 = .int .i64 (na : Int) ∧ i ≤ nm ∧ (frL (more.take i)).length = na ∧ T.take na = frL (more.take i) ∧ na ≤ nt ∧ Below w15.heap.size w15 wr) (fun _ _ i _ => nm - (intOf i).toNat)
          case atStart => exact ⟨0, 0, rfl, rfl, rfl, by omega, rfl, rfl, by omega, Below.refl _ _⟩
          case round =>
            obtain ⟨i, na, rfl, rfl, rfl, hi, hna, hat, hnt, hbr⟩ := hrel
            have HNA := Lib.hid hna
            have HAT := Lib.hid hat
            clear hna hat
            by_cases hlt : i < nm
            · obtain ⟨d, hd⟩ : ∃ d, more[i]? = some d := ⟨_, List.getElem?_eq_getElem (by have := HNM.out; omega)⟩
              have hdt : [d] = (more.drop i).take (i + 1 - i) := by rw [show i + 1 - i = 1 by omega, List.take_one, List.head?_drop, hd]; rfl
              have hin1 : ∀ x ∈ [d], DtIn x := fun x hx => by
                rw [List.mem_singleton] at hx
                subst hx
                exact hinm _ (List.mem_of_getElem? hd)
              have HD := Lib.hid hd
              have HDT := Lib.hid hdt
              clear hd hdt
              have hc6 := hM13.len
              go_wp2_with (refine wpList_slR (o := ⟨some 102, _, _, _, _, _⟩) encDt_len i (i + 1) c6 1 (c6 - i) [d] rfl rfl rfl Try.underlying27 (by kernel_rfl) (.inr ⟨_, _, _, rfl, rfl, by first | rfl | omega⟩) (.inr ⟨_, _, _, rfl, rfl, by first | rfl | omega⟩) (.inl ⟨rfl, rfl⟩) (hM15.ext hbr) (by omega) (by omega) (by omega) (by omega) (by omega) rfl HDT.out ?_; intro Ad hRd hcd)
              refine (refframes_any Ad 1 (c6 - i) [d] _ wr hRd hin1 (by omega)).mono ?_
              rintro e w16 ⟨A16, c16, rfl, hO16, hb16⟩
              have hno1 := frL_one_pos d
              have hno2 := frL_le [d] hin1 1 (by simp)
              obtain ⟨no, hno⟩ : ∃ no, (frL [d]).length = no := ⟨_, rfl⟩
              rw [hno] at hO16 hno1 hno2 ⊢
              have HNO := Lib.hid hno
              clear hno hin1
              have hT16 := (hTb.ext hbr).ext hb16
              have k16 := Below.ext hbr hb16
              have b16 := Below.ext b15 k16
              have hb6 := hO16.bytes
              have hcT := hT16.len.2
              by_cases hc : nt < na + no
              · have dc : decide (nt < na + no) = true := by simpa using hc
                go_wp2_with fail
                refine (next_any (.slice A15 nt c15) T _ w16 (na : Int) hT16 (by have := hTl.out; omega)).mono ?_
                rintro e w17 ⟨v17, rfl, _, hb17⟩
                obtain ⟨er, her⟩ : ∃ er, (nextL T (na : Int)).2.2 = er := ⟨_, rfl⟩
                have k17 := Below.ext k16 hb17
                rw [her]
                have HER := Lib.hid her
                clear her
                by_cases he : er = 0
                · subst he
                  have de : (((0 : Nat) : Int) == 0) = true := rfl
                  go_wp2
                  go_ret
                  exact ⟨rfl, Below.ext b15 k17⟩
                · have de : ((er : Int) == 0) = false := by simp; omega
                  go_wp2_with fail
                  go_meet
                  case rel => exact ⟨i, rfl, hi, torn_stop safe more T i hins hinm (by rw [HNA.out]; exact HAT.out) (by rw [HNA.out, HER.out]; exact he), k17⟩
              · have dc : decide (nt < na + no) = false := by simp; omega
                by_cases heq : (T.drop na).take no = frL [d]
                · have hHEQ := Lib.hid heq
                  clear heq
                  have hRs := hT16.mid (l := na) (k := no) (by omega) (by omega)
                  rw [hHEQ.out] at hRs
                  go_wp2_with fail
                  refine (samebytes_eq _ (.slice A16 no c16) (frL [d]) _ _ w16 hRs.by_ hb6.by_).mono ?_
                  rintro e w17 ⟨rfl, hb17⟩
                  have hst := torn_step more T i d HD.out na no HNA.out HNO.out HAT.out hHEQ.out
                  have hln : (frL (more.take (i + 1))).length = na + no := by rw [hst.1, List.length_append, HNA.out, HNO.out]
                  have HST := Lib.hid (And.intro hln hst.2)
                  clear hst hln
                  go_wp2_with fail
                  refine ⟨⟨i + 1, na + no, by congr 1, by congr 1, by congr 1, by omega, HST.out.1, HST.out.2, by omega, Below.ext k16 hb17⟩, by simp [intOf]; omega⟩
                · have hRs := hT16.mid (l := na) (k := no) (by omega) (by omega)
                  go_wp2_with fail
                  have hsb := samebytes_any _ (.slice A16 no c16) ((T.drop na).take no) (frL [d]) _ _ w16 hRs hb6
                  rw [decide_eq_false heq] at hsb
                  have Hsb := Lib.hid hsb
                  clear hsb heq
                  refine Hsb.out.mono ?_
                  rintro e w17 ⟨rfl, hb17⟩
                  go_wp2_with fail
                  refine (next_any (.slice A15 nt c15) T _ w17 (na : Int) (hT16.ext hb17) (by have := hTl.out; omega)).mono ?_
                  rintro e w18 ⟨v18, rfl, _, hb18⟩
                  obtain ⟨er, her⟩ : ∃ er, (nextL T (na : Int)).2.2 = er := ⟨_, rfl⟩
                  have k18 := Below.ext k16 (Below.ext hb17 hb18)
                  rw [her]
                  have HER := Lib.hid her
                  clear her
                  by_cases he : er = 0
                  · subst he
                    have de : (((0 : Nat) : Int) == 0) = true := rfl
                    go_wp2
                    go_ret
                    exact ⟨rfl, Below.ext b15 k18⟩
                  · have de : ((er : Int) == 0) = false := by simp; omega
                    go_wp2_with fail
                    go_meet
                    case rel => exact ⟨i, rfl, hi, torn_stop safe more T i hins hinm (by rw [HNA.out]; exact HAT.out) (by rw [HNA.out, HER.out]; exact he), k18⟩
            · obtain rfl : i = nm := by omega
              go_wp2_with fail
              go_meet
              case rel =>
                have e1 : more.take i = more := List.take_of_length_le (by rw [HNM.out]; omega)
                refine ⟨i, rfl, hi, ?_, hbr⟩
                have h1 := HNA.out
                have h2 := HAT.out
                rw [e1] at h1 h2 ⊢
                exact torn_full safe more T hins hinm (by rw [h1]; exact h2) (by rw [hTl.out]; have := HNP.out; omega)
        case rest =>
          obtain ⟨i, rfl, hi, hWh, hbx⟩ := hcut
          generalize wc = w16 at *
          have hM16 := hM15.ext hbx
          have k16 := Below.ext k15 hbx
          have hS16 := hS13.ext k16
          have hDw := hD13.ext k16
          have hNw := hN13.ext k16
          have b16 := Below.ext b15 hbx
          have KB := Lib.hid ((k16.block bx (by omega)).trans R13.out)
          have hli : (safe ++ more.take i).length = ns + i := by rw [List.length_append, List.length_take, HNS.out, HNM.out]; omega
          have HLI2 := Lib.hid hli
          have hTl2 := hTl.out
          have HTL2 : T.length ≤ np := by omega
          clear hli hTl2 hM15 hS13 hD13 hN13 R13 hTb hM13
          have hBXlt : bx < w16.heap.size := (Array.getElem?_eq_some_iff.1 KB.out).1
          try (go_wp2_with fail)
          refine wp_region_float (fun w' => w'.heap[bx]? = some (.cells #[.slice A11 1 c11] 45 (0, 0))) 12 28 45 (.cells #[.slice none 0 0] 45) (by kernel_rfl) (by kernel_rfl) (alloc_disk) (fun w' h => row_alloc h _) (KB.out) ?_
          repeat (first | (refine mgL_q0 rfl rfl ?_; go_big_quiet_step (fail); refine wpQuiet_nil ?_) | (refine mgL_skip0 rfl rfl rfl ?_; simp only [Act.put, List.setIfInBounds_toArray, List.set_cons_succ, List.set_cons_zero]))
          refine mgL_ld (⟨bx, 0, none⟩) (.agg #[.slice A11 1 c11]) rfl rfl rfl rfl (fun w' hw' => run_ld_block hw' Try.underlying45 rfl (by kernel_rfl)) ?_
          simp only [Act.put, List.setIfInBounds_toArray, List.set_cons_succ, List.set_cons_zero]
          repeat (first | (refine mgL_q0 rfl rfl ?_; go_big_quiet_step (fail); refine wpQuiet_nil ?_) | (refine mgL_skip0 rfl rfl rfl ?_; simp only [Act.put, List.setIfInBounds_toArray, List.set_cons_succ, List.set_cons_zero]))
          refine mgL_e rfl rfl (fun m1 v1 hE1 => ?_)
          go_wp2_with fail
          have x1 := hE1.bx (Bx.none_ w16.heap.size _ _) (Nat.le_refl _)
          have y1 : Below w16.heap.size w16 v1 := Below.ext (Below.refl _ w16).drew hE1.below
          refine (mod_any _ _ _ (by omega) (by omega) hn.1 hn.2).mono ?_
          rintro e v1b ⟨rfl, rfl⟩
          have KR1 := Lib.hid ((y1.block bx hBXlt).trans KB.out)
          go_wp2_with fail
          refine mgL_go (KR1.out) ?_
          repeat (first | (refine mgL_q0 rfl rfl ?_; go_big_quiet_step (fail); refine wpQuiet_nil ?_) | (refine mgL_skip0 rfl rfl rfl ?_; simp only [Act.put, List.setIfInBounds_toArray, List.set_cons_succ, List.set_cons_zero]))
          refine mgL_e rfl rfl (fun m2 v2 hE2 => ?_)
          go_wp2_with fail
          have x2 := hE2.bx x1 y1.size
          have y2 : Below w16.heap.size w16 v2 := Below.ext y1 hE2.below
          have KR2 := Lib.hid ((y2.block bx hBXlt).trans KB.out)
          go_wp2_with fail
          refine mgL_go (KR2.out) ?_
          repeat (first | (refine mgL_q0 rfl rfl ?_; go_big_quiet_step (fail); refine wpQuiet_nil ?_) | (refine mgL_skip0 rfl rfl rfl ?_; simp only [Act.put, List.setIfInBounds_toArray, List.set_cons_succ, List.set_cons_zero]))
          refine mgL_e rfl rfl (fun m3 v3 hE3 => ?_)
          go_wp2_with fail
          have x3 := hE3.bx x2 y2.size
          have y3 : Below w16.heap.size w16 v3 := Below.ext y2 hE3.below
          obtain ⟨v4, hv4, z4, s4, r4⟩ := newD v3 #[.int .i64 (a1 % 500), .slice A' k c'] 57
          have S4h := Lib.hid s4
          clear s4 r4
          have hT4 := lit_tear1 v3 (a1 % 500) A' k c' acc _ (hNw.ext y3)
          rw [← hv4] at hT4 ⊢
          clear hv4
          have x4 := x3.ext z4
          have y4 := Below.ext y3 z4
          have KR4 := Lib.hid ((y4.block bx hBXlt).trans KB.out)
          go_wp2_with fail
          refine mgL_go (KR4.out) ?_
          repeat (first | (refine mgL_q0 rfl rfl ?_; go_big_quiet_step (fail); refine wpQuiet_nil ?_) | (refine mgL_skip0 rfl rfl rfl ?_; simp only [Act.put, List.setIfInBounds_toArray, List.set_cons_succ, List.set_cons_zero]))
          refine mgL_e rfl rfl (fun m5 v5 hE5 => ?_)
          go_wp2_with fail
          have x5 := hE5.bx x4 y4.size
          have y5 : Below w16.heap.size w16 v5 := Below.ext y4 hE5.below
          have hD5 := hDw.ext y5
          have hT5 := hT4.ext hE5.below
          have hcr := crash_any A11 1 c11 _ _ v5 hD5 (by omega) _ 1 1 [⟨a1 % 500, acc⟩] _ hT5 (fun f hf => by simp only [List.mem_singleton] at hf; subst hf; show (frL safe).length + (frL more).length ≤ 3000000; have := HNP.out; omega)
          rw [crash_file, HT.out] at hcr
          have Hcr := Lib.hid hcr
          clear hcr
          refine Hcr.out.mono ?_
          rintro e v6 ⟨A6_, c6_, rfl, hD6, z6⟩
          have x6 := x5.ext z6
          have y6 := Below.ext y5 z6
          have KR6 := Lib.hid ((y6.block bx hBXlt).trans KB.out)
          go_wp2_with fail
          refine mgL_go (KR6.out) ?_
          repeat (first | (refine mgL_q0 rfl rfl ?_; go_big_quiet_step (fail); refine wpQuiet_nil ?_) | (refine mgL_skip0 rfl rfl rfl ?_; simp only [Act.put, List.setIfInBounds_toArray, List.set_cons_succ, List.set_cons_zero]))
          refine mgL_e rfl rfl (fun m7 v7 hE7 => ?_)
          go_wp2_with fail
          have x7 := hE7.bx x6 y6.size
          have y7 : Below w16.heap.size w16 v7 := Below.ext y6 hE7.below
          have hD7 := hD6.ext hE7.below
          have hop := walopen_go A6_ 1 c6_ _ _ v7 hD7 (by omega) 0 (fun f hf => by simp only [List.mem_singleton] at hf; subst hf; simp only [flen, List.length_append, List.length_nil]; omega) (safe ++ more.take i) _ 1 0 (.inl ⟨0, _, rfl, rfl, by simpa using hWh, rfl, rfl, rfl⟩)
          have Hop := Lib.hid hop
          clear hop
          refine Hop.out.mono ?_
          rintro e v8 ⟨A8, c8, B8, e8, rfl, hL8, _, z8⟩
          rw [HLI2.out] at hL8 ⊢
          have x8 := x7.ext z8
          have y8 := Below.ext y7 z8
          have KR8 := Lib.hid ((y8.block bx hBXlt).trans KB.out)
          have hL8' := hL8.mono (S' := fun b => m7 ≠ some b) (fun b _ h => x7.lt h)
          go_wp2_with fail
          refine mgL_go (KR8.out) ?_
          repeat (first | (refine mgL_q0 rfl rfl ?_; go_big_quiet_step (fail); refine wpQuiet_nil ?_) | (refine mgL_skip0 rfl rfl rfl ?_; simp only [Act.put, List.setIfInBounds_toArray, List.set_cons_succ, List.set_cons_zero]))
          refine mgL_x rfl (fun X v9 hE9 => ?_)
          simp only [Act.put, List.setIfInBounds_toArray, List.set_cons_succ, List.set_cons_zero]
          repeat (first | (refine mgL_q0 rfl rfl ?_; go_big_quiet_step (fail); refine wpQuiet_nil ?_) | (refine mgL_skip0 rfl rfl rfl ?_; simp only [Act.put, List.setIfInBounds_toArray, List.set_cons_succ, List.set_cons_zero]))
          have x9 := hE9.bx x8 y8.size
          have y9 := Below.ext y8 hE9.below
          have rowX := (x9 X rfl).2
          have hWX := (x9 X rfl).1
          have hL9 := (hL8'.mono (S' := fun b => b ≠ X) (fun b hb h e => hE9.ne hb h (by rw [e]))).ext hE9.below
          refine mgL_d rfl rfl ?_
          refine wpList_store_row rfl 45 _ _ rfl X 45 _ _ rfl rfl rowX (by kernel_rfl) rfl (by simp [Value.oneCell']) ?_
          obtain ⟨W10_, hW10_⟩ : ∃ W10_, W10_ = v9.setRow X #[.slice B8 1 e8] := ⟨_, rfl⟩
          have hg10 : v9.grownBy W10_ (some X) := by rw [hW10_]; exact grown_setRow _ _ _
          have y10 : Below w16.heap.size w16 W10_ := by rw [hW10_]; exact Below.setRow y9 hWX _
          have hL10 := hL9.keep (fun b hb h => hg10.block b hb (by simpa using h))
          have KR10 := Lib.hid ((y10.block bx hBXlt).trans KB.out)
          rw [← hW10_]
          clear hW10_ hg10 hL9 hL8 hL8' rowX x1 x2 x3 x4 x5 x6 x7 x8 x9 hE1 hE2 hE3 hE5 hE7 hE9 hT4 hT5 hD5 hD6 hD7 Hcr Hop z4 z6 z8 y1 y2 y3 y4 y5 y6 y7 y8 y9
          refine mgL_go KR10.out ?_
          simp only [Act.put]
          repeat (first | (refine mgL_q0 rfl rfl ?_; go_big_quiet_step (fail); refine wpQuiet_nil ?_) | (refine mgL_skip0 rfl rfl rfl ?_; simp only [Act.put, List.setIfInBounds_toArray, List.set_cons_succ, List.set_cons_zero]))
          refine mgL_nil ?_
          have hSz := hS16.ext y10
          have hMz := hM16.ext y10
          have hl1 := hSz.len
          have hl2 := hMz.len
          go_upto_region 34 with fail
          go_wp2_with (first | (refine wpList_appR (o := ⟨some 152, _, _, _, _, _⟩) encDt_len encDt_one (.agg #[.int .i64 0, .int .i64 0, .int .i64 0, .int .i64 0, .int .i64 0, .int .i64 0, .int .i64 0, .int .i64 0, .int .i64 0]) 72 _ _ 27 38 W10_.heap.size [] safe A5 ns c5 (.slice none 0 0) ns rfl rfl Try.underlying27 infoDt rfl (by omega) rfl rfl (OwnR.nil_ _ _ _) hSz (by simp) (by simp; omega) (by simp; omega) (Nat.le_refl _) ?_; intro A20 c20 w20 hO20 hgr20 hat20 hc201 hc202; (try rw [List.nil_append] at hO20); have hl20 := hgr20.size; have hb20 := grown_nil hgr20) | (refine wpList_stop 154 rfl ?_))
          refine ⟨?_⟩
          refine wpList_appR encDt_len encDt_one (.agg #[.int .i64 0, .int .i64 0, .int .i64 0, .int .i64 0, .int .i64 0, .int .i64 0, .int .i64 0, .int .i64 0, .int .i64 0]) 72 _ _ 27 38 W10_.heap.size safe more A6 nm c6 (.slice A20 ns c20) (ns + nm) rfl rfl Try.underlying27 infoDt rfl (by omega) rfl rfl hO20 (hMz.ext hb20) (by omega) (by omega) (by omega) hl20 ?_
          intro A21 c21 w21 hO21 hgr21 hat21 hc211 hc212
          have HL1 := Lib.hid hl1
          have HL2 := Lib.hid hl2
          have b21 : Below W10_.heap.size W10_ w21 := OwnR.grow hO20 hgr21 hb20 (Nat.le_refl _) hl20
          clear hl1 hl2
          go_wp2_with (refine wpList_stop 164 rfl ?_)
          refine ⟨?_⟩
          have hl1 := HL1.out
          have hl2 := HL2.out
          refine wpList_slRw encDt_len 0 (ns + i) c21 (ns + i) c21 (safe ++ more.take i) rfl rfl rfl Try.underlying27 (by kernel_rfl) (.inl ⟨rfl, rfl⟩) (.inr ⟨_, _, _, rfl, rfl, by first | rfl | omega⟩) (.inl ⟨rfl, rfl⟩) hO21.recs (by omega) (by omega) (by omega) (by omega) (by omega) (by omega) (torn_take safe more i ns HNS.out) ?_
          intro A22 hR22 hc22
          clear hl1 hl2
          go_wp2_with fail
          refine (samedets_eq _ _ (ns + i) _ _ (safe ++ more.take i) _ _ w21 (hL10.ext b21) hR22).mono ?_
          rintro e w22 ⟨rfl, hb22⟩
          go_wp2
          go_ret
          exact ⟨rfl, Below.ext b16 (Below.ext y10 (Below.ext b21 hb22))⟩
  · have dl : decide (20 < len2) = true := by simp; omega
    have dl' : decide ((20 : Int) < (len2 : Int)) = true := by simp; omega
    go_wp2
    go_ret
    exact ⟨rfl, hb1⟩
end Go.Proofs.Ytjcfnpmgklliiaa.walTorn
