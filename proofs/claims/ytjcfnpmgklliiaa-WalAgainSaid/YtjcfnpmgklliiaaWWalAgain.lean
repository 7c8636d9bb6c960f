/-
  The walk of the law WalAgain: it returns true and writes nothing that was there. Conditions: what the row says of its arguments.
-/
import Derived.Test.YtjcfnpmgklliiaaWalG
import Derived.WalkKit
import Derived.ProofKit
import Derived.OpenShut
import Derived.ShutString
import Derived.Below
namespace Go.Proofs.Ytjcfnpmgklliiaa.walAgain
open Go.ChangeShapes Go.WideShapes Go.ChangeAt Go.RowKit
open Go.ChangeMaps (open_string shut_string)
set_option linter.unusedVariables false
set_option maxRecDepth 100000

set_option maxHeartbeats 4000000 in
theorem walk (a0 : Option Addr) (len0 cap0 : Nat) (z0 : List Int) (a1 : Option Addr) (len1 cap1 : Nat) (z1 : List Int) (a2 : Int) (w : World) (w0 : IsRow .u8 w a0 len0 cap0 z0) (w1 : IsRow .u8 w a1 len1 cap1 z1) (w2 : (Lit.int .i64 a2).wf = true) :
    Calls Try.prog 5 #[.slice a0 len0 cap0, .slice a1 len1 cap1, .int .i64 a2] w fun e w' => e = .returned (.bool true) ∧ Below w.heap.size w w' := by
  obtain ⟨codes, hk1, hk2, hk3, hkB⟩ := IsRow.bytes w0
  obtain ⟨more, hm1, hm2, hm3, hmB⟩ := IsRow.bytes w1
  clear w0 w1 w2
  have HK := Lib.hid hk1
  have HM := Lib.hid hm1
  clear hk1 hm1
  go_enter Try.func5, Try.ntmps5
  go_wp2_with fail
  refine (awake12_any _).mono ?_
  rintro e w1 ⟨rfl, hb1⟩
  by_cases hlen : len1 ≤ 500
  · have dl : decide (500 < len1) = false := by simpa using hlen
    have dl' : decide ((500 : Int) < (len1 : Int)) = false := by simp; omega
    have hcn := codnew_any _ codes _ w1 200 (by omega) (hkB.ext hb1)
    rw [show ((200 : Nat) : Int) = 200 from rfl] at hcn
    have Hcn := Lib.hid hcn
    clear hcn
    go_wp2_with fail
    refine (Hcn.out).mono ?_
    rintro e w2 ⟨g, rfl, hC2, hb2⟩
    have b2 := Below.ext hb1 hb2
    have hcd := coddets_any w1.heap.size g 6 w2 hC2 (by omega)
    rw [show ((6 : Nat) : Int) = 6 from rfl] at hcd
    have Hcd := Lib.hid hcd
    clear hcd
    go_wp2_with fail
    refine (Hcd.out).mono ?_
    rintro e w3 ⟨A3, c3, l0, rfl, hl0, hin0, hown3, hC3, hg3⟩
    have HIN0 := Lib.hid hin0
    have hb3 : Below w1.heap.size w1 w3 := below_of_grown (a := w1) hb2 hg3 hC2.1
    have b3 := Below.ext hb1 hb3
    have hfl := frL_len l0 hin0
    go_wp2_with fail
    refine (refframes_any A3 l0.length c3 l0 _ w3 hown3.recs hin0 (by omega)).mono ?_
    rintro e w4 ⟨A4, c4, rfl, hown4, hb4⟩
    have b4 := Below.ext b3 hb4
    obtain ⟨nf, hnf⟩ : ∃ nf, (frL l0).length = nf := ⟨_, rfl⟩
    rw [hnf] at hown4 hfl ⊢
    have HNF := Lib.hid hnf
    clear hin0 hnf
    have s4 := hb4.size
    go_upto_region 7 with (refine wpList_appB (o := ⟨some 29, _, _, _, _, _⟩) _ _ 22 5 w3.heap.size (frL l0) more a1 len1 cap1 (.slice A4 nf c4) (nf + len1) rfl rfl Try.underlying22 (by kernel_rfl) rfl rfl hown4 (hmB.ext b4) (by rw [HNF.out]) (by rw [HNF.out]; omega) (by omega) ?_; intro A5 c5 w5 hown5 hgr5 hat5 hc51 hc52)
    have b35 : Below w3.heap.size w3 w5 := hown4.grow hgr5 hb4 (Nat.le_refl _) s4
    have b5 := Below.ext b3 b35
    obtain ⟨l1, hw1⟩ := whole_ex (frL l0 ++ more)
    have hwi := whole_in hw1
    have hwl := whole_len hw1
    have hbl : (frL l0 ++ more).length ≤ 1100 := by rw [List.length_append, HNF.out, HM.out]; omega
    obtain ⟨W6, hW6, b6, k6, S6, r6⟩ := boxD w w5 #[.slice A5 (nf + len1) c5, .slice none 0 0] 42 b5
    have hD6 := lit_disk1 w5 A5 (nf + len1) c5 (frL l0 ++ more) _ hown5.bytes.by_
    rw [← hW6] at hD6
    have hop := walopen_go _ 1 1 [⟨frL l0 ++ more, []⟩] _ W6 hD6 (by omega) 0 (fun f hf => by simp only [List.mem_singleton] at hf; subst hf; simp only [flen, List.length_nil]; omega) l1 [⟨frL l1, []⟩] 1 0 (.inl ⟨0, _, rfl, rfl, by simpa using hw1, rfl, rfl, rfl⟩)
    have Hop := Lib.hid hop
    clear hop r6
    go_wp2_with fail
    rw [← hW6]
    clear hW6
    refine Hop.out.mono ?_
    rintro e w7 ⟨A7, c7, B7, e7, rfl, hL7, hD7, hb7⟩
    obtain ⟨n1, hn1⟩ : ∃ n1, l1.length = n1 := ⟨_, rfl⟩
    rw [hn1] at hL7 hwl ⊢
    have HN1 := Lib.hid hn1
    have HWI := Lib.hid hwi
    have hfl1 : (frL l1).length ≤ 1100 := by omega
    clear hn1 hwi
    have b7 := Below.ext b6 hb7
    obtain ⟨W8, hW8, b8, k8, S8, r8⟩ := boxD w w7 #[.slice B7 1 e7] 45 b7
    go_upto_region 8 with (refine wpList_store_new rfl 45 _ _ rfl 45 _ #[.slice B7 1 e7] rfl rfl (by kernel_rfl) rfl (by simp [Value.oneCell']) ?_)
    rw [← hW8]
    clear hW8
    have hD8 := hD7.ext k8
    have hL8 := hL7.ext k8
    have hlen8 : ∀ f ∈ [(⟨frL l1, []⟩ : Fil)], flen f ≤ 30000 := fun f hf => by simp only [List.mem_singleton] at hf; subst hf; simp only [flen, List.length_nil]; omega
    have hop := walopen_go _ 1 _ [⟨frL l1, []⟩] _ W8 hD8 (by omega) 0 hlen8 l1 [⟨frL l1, []⟩] 1 0 (.inl ⟨0, _, rfl, rfl, by simpa using whole_frL l1 HWI.out, rfl, rfl, rfl⟩)
    have Hop := Lib.hid hop
    clear hop
    go_wp2_with (refine wpList_load_row rfl 45 _ rfl _ rfl 45 _ (0,0) _ r8.out Try.underlying45 rfl (by kernel_rfl) ?_)
    refine Hop.out.mono ?_
    rintro e w9 ⟨A9, c9, B9, e9, rfl, hL9, hD9, hb9⟩
    rw [HN1.out] at hL9 ⊢
    have b9 := Below.ext b8 hb9
    have r9 := Lib.hid ((hb9.block _ (by have := S8.out; omega)).trans r8.out)
    obtain ⟨W10, hW10, b10, k10, S10, r10⟩ := boxD w w9 #[.slice B9 1 e9] 45 b9
    go_upto_region 9 with (refine wpList_store_new rfl 45 _ _ rfl 45 _ #[.slice B9 1 e9] rfl rfl (by kernel_rfl) rfl (by simp [Value.oneCell']) ?_)
    rw [← hW10]
    clear hW10
    have s9 := hb9.size
    have R10 := Lib.hid ((k10.block _ (by have := S8.out; omega)).trans r9.out)
    have k810 := Below.ext hb9 k10
    have hD10 := hD8.ext k810
    have hL10 := hL8.ext k810
    have hX10 := hD9.ext k10
    have hM10 := hL9.ext k10
    obtain ⟨W11, hW11, b11, k11, S11, r11⟩ := boxD w W10 #[.int .i64 a2, .slice none 0 0] 57 b10
    have hT11 := lit_tear1 W10 a2 none 0 0 [] (fun _ => True) (Recs.nil_ _ _)
    rw [← hW11] at hT11
    have hcr := crash_any _ 1 _ [⟨frL l1, []⟩] _ W11 (hD10.ext k11) (by omega) _ 1 1 [⟨a2, []⟩] _ hT11 (fun f hf => by have := hlen8 f hf; unfold flen at this; omega)
    rw [crash_synced] at hcr
    have Hcr := Lib.hid hcr
    clear hcr r11
    go_wp2_with (refine wpList_load_row rfl 45 _ rfl _ rfl 45 _ (0,0) _ R10.out Try.underlying45 rfl (by kernel_rfl) ?_)
    rw [← hW11]
    clear hW11
    refine Hcr.out.mono ?_
    rintro e w12 ⟨A12, c12, rfl, hD12, hb12⟩
    have b12 := Below.ext b11 hb12
    have hop := walopen_go _ 1 _ [⟨frL l1, []⟩] _ w12 hD12 (by omega) 0 hlen8 l1 [⟨frL l1, []⟩] 1 0 (.inl ⟨0, _, rfl, rfl, by simpa using whole_frL l1 HWI.out, rfl, rfl, rfl⟩)
    have Hop := Lib.hid hop
    clear hop
    go_wp2_with fail
    refine Hop.out.mono ?_
    rintro e w13 ⟨A13, c13, B13, e13, rfl, hL13, hD13, hb13⟩
    rw [HN1.out] at hL13 ⊢
    have b13 := Below.ext b12 hb13
    have k1013 := Below.ext k11 (Below.ext hb12 hb13)
    obtain ⟨W14, hW14, b14, k14, S14, r14⟩ := boxD w w13 #[.slice B13 1 e13] 45 b13
    go_upto_region 10 with (refine wpList_store_new rfl 45 _ _ rfl 45 _ #[.slice B13 1 e13] rfl rfl (by kernel_rfl) rfl (by simp [Value.oneCell']) ?_)
    rw [← hW14]
    clear hW14
    have k1014 := Below.ext k1013 k14
    have hs10 : w7.heap.size < W10.heap.size := by have := S8.out; have := S10.out; omega
    have hs10b : w9.heap.size < W10.heap.size := by have := S10.out; omega
    go_wp2_with fail
    refine (samedets_eq _ _ n1 _ _ l1 _ _ W14 (hL10.ext k1014) (hM10.ext k1014)).mono ?_
    rintro e w15 ⟨rfl, hb15⟩
    have k1015 := Below.ext k1014 hb15
    go_wp2_with fail
    refine (samedets_eq _ _ n1 _ _ l1 _ _ w15 (hL10.ext k1015) ((hL13.ext k14).ext hb15)).mono ?_
    rintro e w16 ⟨rfl, hb16⟩
    have k1016 := Below.ext k1015 hb16
    have X1 := Lib.hid ((k1016.block _ hs10).trans R10.out)
    have X2 := Lib.hid ((k1016.block _ hs10b).trans r10.out)
    have x1 : w16.cell? ⟨w7.heap.size, 0, none⟩ = some (.slice B7 1 e7) := row_cell X1.out 0 _ rfl
    have x2 : w16.cell? ⟨w9.heap.size, 0, none⟩ = some (.slice B9 1 e9) := row_cell X2.out 0 _ rfl
    go_wp2_with fail
    refine (samedisk_eq _ _ 1 _ _ [⟨frL l1, []⟩] _ _ w16 (hD10.ext k1016) (hX10.ext k1016) (by omega)).mono ?_
    rintro e w17 ⟨rfl, hb17⟩
    go_wp2
    go_ret
    exact ⟨rfl, Below.ext b10 (Below.ext k1016 hb17)⟩
  · have dl : decide (500 < len1) = true := by simp; omega
    have dl' : decide ((500 : Int) < (len1 : Int)) = true := by simp; omega
    go_wp2
    go_ret
    exact ⟨rfl, hb1⟩
end Go.Proofs.Ytjcfnpmgklliiaa.walAgain
