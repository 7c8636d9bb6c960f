/-
  The walk of the law WalOpens: it returns true and writes nothing that was there. Conditions: what the row says of its arguments.
-/
import Derived.Test.YtjcfnpmgklliiaaWalH
import Derived.WalkKit
import Derived.ProofKit
import Derived.OpenShut
import Derived.ShutString
import Derived.Below
namespace Go.Proofs.Ytjcfnpmgklliiaa.walOpens
open Go.ChangeShapes Go.WideShapes Go.ChangeAt Go.RowKit
open Go.ChangeMaps (open_string shut_string)
set_option linter.unusedVariables false
set_option maxRecDepth 100000

set_option maxHeartbeats 4000000 in
theorem walk (a0 : Option Addr) (len0 cap0 : Nat) (z0 : List Int) (a1 : Option Addr) (len1 cap1 : Nat) (z1 : List Int) (a2 : Int) (a3 : Int) (w : World) (w0 : IsRow .u8 w a0 len0 cap0 z0) (w1 : IsRow .u8 w a1 len1 cap1 z1) (w2 : (Lit.int .i64 a2).wf = true) (w3 : (Lit.int .u8 a3).wf = true) :
    Calls Try.prog 3 #[.slice a0 len0 cap0, .slice a1 len1 cap1, .int .i64 a2, .int .u8 a3] w fun e w' => e = .returned (.bool true) ∧ Below w.heap.size w w' := by
  obtain ⟨codes, hk1, hk2, hk3, hkB⟩ := IsRow.bytes w0
  obtain ⟨more, hm1, hm2, hm3, hmB⟩ := IsRow.bytes w1
  have hn := wf_i64 w2
  have hy := wf_u8 w3
  obtain ⟨by_, rfl⟩ := Int.eq_ofNat_of_zero_le hy.1
  have hby : by_ < 256 := by omega
  clear w0 w1 w2 w3 hy
  have HK := Lib.hid hk1
  have HM := Lib.hid hm1
  clear hk1 hm1
  go_enter Try.func3, Try.ntmps3
  go_wp2_with fail
  refine (awake12_any _).mono ?_
  rintro e w1 ⟨rfl, hb1⟩
  by_cases hlen : len1 ≤ 500
  · have dl : decide (500 < len1) = false := by simpa using hlen
    have dl' : decide ((500 : Int) < (len1 : Int)) = false := by simp; omega
    have hcn := codnew_any _ codes _ w1 200 (by omega) (hkB.ext hb1)
    rw [show ((200 : Nat) : Int) = 200 from rfl] at hcn
    have Hcn := Lib.hid hcn
    clear hcn
    go_wp2_with fail
    refine (Hcn.out).mono ?_
    rintro e w2 ⟨g, rfl, hC2, hb2⟩
    have b2 := Below.ext hb1 hb2
    have hcd := coddets_any w1.heap.size g 6 w2 hC2 (by omega)
    rw [show ((6 : Nat) : Int) = 6 from rfl] at hcd
    have Hcd := Lib.hid hcd
    clear hcd
    go_wp2_with fail
    refine (Hcd.out).mono ?_
    rintro e w3 ⟨A3, c3, l0, rfl, hl0, hin0, hown3, hC3, hg3⟩
    have hb3 : Below w1.heap.size w1 w3 := below_of_grown (a := w1) hb2 hg3 hC2.1
    have b3 := Below.ext hb1 hb3
    have hfl := frL_len l0 hin0
    go_wp2_with fail
    refine (refframes_any A3 l0.length c3 l0 _ w3 hown3.recs hin0 (by omega)).mono ?_
    rintro e w4 ⟨A4, c4, rfl, hown4, hb4⟩
    have b4 := Below.ext b3 hb4
    obtain ⟨nf, hnf⟩ : ∃ nf, (frL l0).length = nf := ⟨_, rfl⟩
    rw [hnf] at hown4 hfl ⊢
    have hnf2 : nf ≤ 588 := by omega
    have HNF := Lib.hid hnf
    obtain ⟨F, hF⟩ : ∃ F, frL l0 = F := ⟨_, rfl⟩
    rw [hF] at hown4 HNF
    clear hin0 hnf hfl hF hg3 hown3 hC2 hC3
    have hY4 := hown4.bytes.mono (S' := fun _ => True) (fun _ _ _ => trivial)
    have hpd := refputDet_o (.slice none 0 0) [] (fun _ => True) w4 (Bytes.nil_ _ _) oddDt oddDt_in (by simp)
    unfold dtV oddDt at hpd
    have Hpd := Lib.hid hpd
    clear hpd
    go_wp2_with fail
    refine Hpd.out.mono ?_
    rintro e w5 ⟨v5, rfl, hown5, hb5⟩
    rw [List.nil_append] at hown5
    have hb5s := hb5.size
    obtain ⟨A5, c5, rfl⟩ := byt_slice hown5.bytes
    obtain ⟨OB, hOB⟩ : ∃ OB, encs (Dt.l ⟨1, 0, 0, 0, 0, 0, 0, 0, 0⟩) = OB := ⟨_, rfl⟩
    rw [hOB] at hown5 ⊢
    have hOBl : OB.length ≤ 90 := by have := detB_len oddDt_in; unfold detB oddDt at this; rw [hOB] at this; exact this
    clear hOB
    obtain ⟨no, hno⟩ : ∃ no, OB.length = no := ⟨_, rfl⟩
    rw [hno] at hown5 hOBl ⊢
    have HNO := Lib.hid hno
    clear hno
    have k5 : Below w5.heap.size w5 (w5.alloc (.cells #[.int .u8 0] 5)) := (Below.refl _ _).alloc (Nat.le_refl _) _
    have hone : Bytes (fun _ => True) (w5.alloc (.cells #[.int .u8 0] 5)) (.slice (some ⟨w5.heap.size, 0, none⟩) 1 1) [0] := Bytes.lit (S := fun _ => True) w5 _ _ _ _ 1 1 trivial rfl (by omega) (by simp [maxLen]) rfl
    go_wp2_with (refine wpList_appB (o := ⟨some 41, _, _, _, _, _⟩) _ _ 22 5 w4.heap.size OB [0] (some ⟨w5.heap.size, 0, none⟩) 1 1 (.slice A5 no c5) (no + 1) rfl rfl Try.underlying22 (by kernel_rfl) rfl rfl (hown5.ext k5) hone (by rw [HNO.out]) (by rw [HNO.out]; omega) (by simp; omega) ?_; intro A6 c6 w6 hown6 hgr6 hat6 hc61 hc62)
    have k46 : Below w4.heap.size w4 w6 := (hown5.ext k5).grow hgr6 (Below.ext hb5 k5) (Nat.le_refl _) (by simp; omega)
    refine (seal_any (.slice A6 (no + 1) c6) (OB ++ [0]) _ w6 hown6.bytes (by rw [List.length_append, HNO.out]; simp; omega)).mono ?_
    rintro e w7 ⟨v7, rfl, hown7, hb7⟩
    obtain ⟨A7, c7, rfl⟩ := byt_slice hown7.bytes
    obtain ⟨OD, hOD⟩ : ∃ OD, sealL (OB ++ [0]) = OD := ⟨_, rfl⟩
    rw [hOD] at hown7 ⊢
    obtain ⟨nd, hnd⟩ : ∃ nd, OD.length = nd := ⟨_, rfl⟩
    have hnd2 : nd ≤ 99 := by rw [← hnd, ← hOD, sealL_length, List.length_append, HNO.out]; simp; omega
    rw [hnd] at hown7 ⊢
    have HND := Lib.hid hnd
    clear hnd hOD
    have k47 := Below.ext k46 hb7
    have b7 := Below.ext b4 k47
    have hF7 := hY4.ext k47
    have hO7 := hown7.bytes.mono (S' := fun _ => True) (fun _ _ _ => trivial)
    have hM7 := (hmB.ext b7).mono (S' := fun _ => True) (fun _ _ _ => trivial)
    clear hown4 hown5 hown6 hown7 hY4 hone hgr6 hat6
    go_upto_region 9 with (refine wpList_appB (o := ⟨some 46, _, _, _, _, _⟩) _ _ 22 5 w7.heap.size [] F A4 nf c4 (.slice none 0 0) nf rfl rfl Try.underlying22 (by kernel_rfl) rfl rfl (OwnB.nil_ _ _ _) hF7 (by simp) (by simp; omega) (Nat.le_refl _) ?_; intro A8 c8 w8 hown8 hgr8 hat8 hc81 hc82)
    rw [List.nil_append] at hown8
    have k78 : Below w7.heap.size w7 w8 := OwnB.grow (OwnB.nil_ w7 w7.heap.size 5) hgr8 (Below.refl _ _) (Nat.le_refl _) (Nat.le_refl _)
    clear hgr8 hat8
    go_upto_if 49 with fail
    go_cut [] from 47 (fun wx => ∃ sp : List UInt8, OwnB wx w7.heap.size 5 (.slice A8 nf c8) sp ∧ Below w7.heap.size w7 wx)
    case first =>
      by_cases hp : 0 < nf
      · have d0 : decide ((0 : Int) < (nf : Int)) = true := by simp; omega
        obtain ⟨g8, rfl, hg81, hg82⟩ := hown8.some_ (by rw [HNF.out]; omega)
        go_wp2_with fail
        refine (mod_any _ _ _ (by omega) (by omega) hn.1 hn.2).mono ?_
        rintro e w9 ⟨rfl, rfl⟩
        have hk0 := Int.emod_nonneg a2 (b := (nf : Int)) (by omega)
        have hk1 := Int.emod_lt_of_pos a2 (b := (nf : Int)) (by omega)
        obtain ⟨k, hk⟩ := Int.eq_ofNat_of_zero_le hk0
        rw [hk] at hk1 ⊢
        clear hk hk0
        obtain ⟨x, hx, hcx⟩ := hown8.at_ (j := k) (by rw [HNF.out]; omega)
        have hfx := hown8.frozen k
        have hxs : bits BinOp.xor IntKind.u8 (x.toNat : Int) (by_ : Int) = ((x.toNat ^^^ by_ : Nat) : Int) := u8_xor_nat _ _ (u8_lt x) hby
        clear hx
        have hset := hown8.set_ k (x ^^^ UInt8.ofNat by_)
        have eby : (x ^^^ UInt8.ofNat by_).toNat = x.toNat ^^^ by_ := by rw [UInt8.toNat_xor]; congr 1; simp; omega
        rw [eby] at hset
        clear eby
        have hb9 : Below w7.heap.size w7 (w8.setCell ⟨g8, k, none⟩ (.int .u8 ((x.toNat ^^^ by_ : Nat) : Int))) := k78.setCell hg81 _
        have HFIN := Lib.hid (And.intro hset hb9)
        clear hset hb9
        go_wp2_with fail
        go_meet
        case rel => exact ⟨_, HFIN.out⟩
      · have d0 : decide ((0 : Int) < (nf : Int)) = false := by simp; omega
        go_wp2_with fail
        go_meet
        case rel => exact ⟨_, hown8, k78⟩
    case rest =>
      obtain ⟨sp, hownS, k79⟩ := hcut
      generalize wc = w9 at *
      have hspl := hownS.len.1
      have HSP := Lib.hid hspl
      clear hspl hown8 k78
      have b9 := Below.ext b7 k79
      have hF9 := hF7.ext k79
      have hO9 := hO7.ext k79
      have hM9 := hM7.ext k79
      have hS9 := hownS.bytes.mono (S' := fun _ => True) (fun _ _ _ => trivial)
      clear hF7 hO7 hM7 hownS
      go_upto_block 0 with (first | (refine wpList_appB (o := ⟨some 61, _, _, _, _, _⟩) _ _ 22 5 w9.heap.size [] F A4 nf c4 (.slice none 0 0) nf rfl rfl Try.underlying22 (by kernel_rfl) rfl rfl (OwnB.nil_ _ _ _) hF9 (by simp) (by simp; omega) (Nat.le_refl _) ?_; intro A11 c11 w11 hown11 hgr11 hat11 hc111 hc112; have kk11 : Below w9.heap.size w9 w11 := OwnB.grow (OwnB.nil_ w9 w9.heap.size 5) hgr11 (Below.refl _ _) (Nat.le_refl _) (Nat.le_refl _); rw [List.nil_append] at hown11; have ss11 := kk11.size) | (refine wpList_appB (o := ⟨some 63, _, _, _, _, _⟩) _ _ 22 5 w9.heap.size F more a1 len1 cap1 (.slice A11 nf c11) (nf + len1) rfl rfl Try.underlying22 (by kernel_rfl) rfl rfl hown11 (hM9.ext kk11) (by rw [HNF.out]) (by rw [HNF.out]; omega) ss11 ?_; intro A12 c12 w12 hown12 hgr12 hat12 hc121 hc122; have kk12 : Below w9.heap.size w9 w12 := hown11.grow hgr12 kk11 (Nat.le_refl _) ss11; have ss12 := kk12.size) | (refine wpList_appB (o := ⟨some 65, _, _, _, _, _⟩) _ _ 22 5 w12.heap.size [] F A4 nf c4 (.slice none 0 0) nf rfl rfl Try.underlying22 (by kernel_rfl) rfl rfl (OwnB.nil_ _ _ _) (hF9.ext kk12) (by simp) (by simp; omega) (Nat.le_refl _) ?_; intro A13 c13 w13 hown13 hgr13 hat13 hc131 hc132; have kk13 : Below w12.heap.size w12 w13 := OwnB.grow (OwnB.nil_ w12 w12.heap.size 5) hgr13 (Below.refl _ _) (Nat.le_refl _) (Nat.le_refl _); rw [List.nil_append] at hown13; have ss13 := kk13.size) | (refine wpList_appB (o := ⟨some 67, _, _, _, _, _⟩) _ _ 22 5 w12.heap.size F OD A7 nd c7 (.slice A13 nf c13) (nf + nd) rfl rfl Try.underlying22 (by kernel_rfl) rfl rfl hown13 ((hO9.ext kk12).ext kk13) (by rw [HNF.out]) (by rw [HNF.out]; omega) ss13 ?_; intro A14 c14 w14 hown14 hgr14 hat14 hc141 hc142; have kk14 : Below w12.heap.size w12 w14 := hown13.grow hgr14 kk13 (Nat.le_refl _) ss13; have ss14 := kk14.size) | (refine wpList_appB (o := ⟨some 69, _, _, _, _, _⟩) _ _ 22 5 w12.heap.size (F ++ OD) F A4 nf c4 (.slice A14 (nf + nd) c14) (nf + nd + nf) rfl rfl Try.underlying22 (by kernel_rfl) rfl rfl hown14 ((hF9.ext kk12).ext kk14) (by rw [List.length_append, HNF.out, HND.out]) (by rw [List.length_append, HNF.out, HND.out]; omega) ss14 ?_; intro A15 c15 w15 hown15 hgr15 hat15 hc151 hc152; have kk15 : Below w12.heap.size w12 w15 := hown14.grow hgr15 kk14 (Nat.le_refl _) ss14))
      have k915 := Below.ext kk12 kk15
      have hB1 := (hown12.bytes.mono (S' := fun _ => True) (fun _ _ _ => trivial)).ext kk15
      have hB2 := hown15.bytes.mono (S' := fun _ => True) (fun _ _ _ => trivial)
      have hL := lit_lists4 w15 A12 A15 A8 a1 (nf + len1) c12 (nf + nd + nf) c15 nf c8 len1 cap1 _ _ _ _ _ hB1 hB2 (hS9.ext k915) (hM9.ext k915)
      have hsm : ∀ x ∈ [F ++ more, F ++ OD ++ F, sp, more], x.length ≤ 2000 := by
        have e1 := HNF.out
        have e2 := HND.out
        have e3 := HM.out
        have e4 := HSP.out
        intro x hx
        simp only [List.mem_cons, List.not_mem_nil, or_false] at hx
        rcases hx with rfl | rfl | rfl | rfl <;> (try simp only [List.length_append]) <;> omega
      have HSM := Lib.hid hsm
      clear hsm
      obtain ⟨LL, hLL⟩ : ∃ LL, [F ++ more, F ++ OD ++ F, sp, more] = LL := ⟨_, rfl⟩
      rw [hLL] at hL HSM
      clear hLL
      obtain ⟨W16, hW16, b16, k16, S16, r16⟩ := boxD w w15 #[.slice A12 (nf + len1) c12, .slice A15 (nf + nd + nf) c15, .slice A8 nf c8, .slice a1 len1 cap1] 22 (Below.ext b9 k915)
      rw [← hW16] at hL ⊢
      have hM16 := (hM9.ext k915).ext k16
      clear hW16 hB1 hB2 r16 hown11 hown12 hown13 hown14 hown15 hgr11 hgr12 hgr13 hgr14 hgr15 hat11 hat12 hat13 hat14 hat15 kk11 kk12 kk13 kk14 kk15 hF9 hO9 hM9 hS9
      go_wp2_with fail
      go_loopw [74] (fun i wr => ∃ k : Nat, i = .int .i64 k ∧ k ≤ 4 ∧ Below W16.heap.size W16 wr) (fun i _ => 4 - (intOf i).toNat)
      case atStart => exact ⟨0, rfl, by omega, Below.refl _ _⟩
      case round =>
        obtain ⟨k, rfl, hk, hbr⟩ := hrel
        by_cases hlt : k < 4
        · obtain ⟨bx, ox, x, lx, hA, _, hbl, hlx, hcx, hxB⟩ := (hL.ext hbr).at_ hlt
          cases hA
          rw [Nat.zero_add] at hcx
          obtain ⟨Ax, cx, rfl⟩ := byt_slice hxB
          have hxs := HSM.out lx (List.mem_of_getElem? hlx)
          obtain ⟨nx, hnx⟩ : ∃ nx, lx.length = nx := ⟨_, rfl⟩
          rw [hnx] at hxB hcx hxs
          have HNX := Lib.hid hnx
          clear hnx hlx
          have dk : decide ((k : Int) < 4) = true := by simp; omega
          go_upto_region 14 with fail
          have HXL := Lib.hid hxB.len
          go_wp2_with fail
          refine wp_region_lexB (fun _ => True) (by kernel_rfl) (by kernel_rfl) trivial ?_
          repeat (refine lexB_q (q_plain rfl) rfl ?_; go_big_quiet_step (fail); refine wpQuiet_nil ?_)
          refine lexB_v (.agg #[.slice Ax nx cx, .slice none 0 0]) rfl rfl (fun w' _ => by kernel_rfl) ?_
          simp only [Act.put, List.setIfInBounds_toArray, List.set_cons_succ, List.set_cons_zero]
          repeat (refine lexB_q (q_plain rfl) rfl ?_; go_big_quiet_step (fail); refine wpQuiet_nil ?_)
          refine lexB_sl (0) (nx / 2) (cx) (nx / 2) (cx) (lx.take (nx / 2)) rfl rfl rfl Try.underlying22 (by kernel_rfl) (by first | exact .inl ⟨rfl, rfl⟩ | exact .inr ⟨_, _, _, rfl, rfl, by omega⟩) (by first | exact .inl ⟨rfl, rfl, rfl⟩ | exact .inr ⟨_, _, _, rfl, rfl, by omega⟩) (by first | exact .inl ⟨rfl, rfl⟩ | exact .inr ⟨_, _, _, rfl, rfl, by omega⟩) (hxB.drew) (by have := HXL.out; omega) (by have := HXL.out; omega) (by have := HXL.out; omega) (by have := HXL.out; omega) (by have := HXL.out; omega) (by have := HXL.out; omega) (by first | rfl | (simp; done) | exact (List.take_of_length_le (by rw [List.length_drop, HNX.out]; exact Nat.le_refl _)).symm) ?_
          intro A17 hB17 hc17
          clear hc17
          simp only [Act.put, List.setIfInBounds_toArray, List.set_cons_succ, List.set_cons_zero]
          repeat (refine lexB_q (q_plain rfl) rfl ?_; go_big_quiet_step (fail); refine wpQuiet_nil ?_)
          refine lexB_sl (nx / 2) (nx) (cx) (nx - nx / 2) (cx - nx / 2) (lx.drop (nx / 2)) rfl rfl rfl Try.underlying22 (by kernel_rfl) (by first | exact .inl ⟨rfl, rfl⟩ | exact .inr ⟨_, _, _, rfl, rfl, by omega⟩) (by first | exact .inl ⟨rfl, rfl, rfl⟩ | exact .inr ⟨_, _, _, rfl, rfl, by omega⟩) (by first | exact .inl ⟨rfl, rfl⟩ | exact .inr ⟨_, _, _, rfl, rfl, by omega⟩) (hxB.drew) (by have := HXL.out; omega) (by have := HXL.out; omega) (by have := HXL.out; omega) (by have := HXL.out; omega) (by have := HXL.out; omega) (by have := HXL.out; omega) (by first | rfl | (simp; done) | exact (List.take_of_length_le (by rw [List.length_drop, HNX.out]; exact Nat.le_refl _)).symm) ?_
          intro A18 hB18 hc18
          clear hc18
          simp only [Act.put, List.setIfInBounds_toArray, List.set_cons_succ, List.set_cons_zero]
          repeat (refine lexB_q (q_plain rfl) rfl ?_; go_big_quiet_step (fail); refine wpQuiet_nil ?_)
          refine lexB_v (.agg #[.slice A17 (nx / 2) cx, .slice A18 (nx - nx / 2) (cx - nx / 2)]) rfl rfl (fun w' _ => by kernel_rfl) ?_
          simp only [Act.put, List.setIfInBounds_toArray, List.set_cons_succ, List.set_cons_zero]
          repeat (refine lexB_q (q_plain rfl) rfl ?_; go_big_quiet_step (fail); refine wpQuiet_nil ?_)
          refine lexB_e rfl ?_
          go_wp2_with fail
          refine lexB_go trivial ?_
          repeat (refine lexB_q (q_plain rfl) rfl ?_; go_big_quiet_step (fail); refine wpQuiet_nil ?_)
          refine lexB_nil ?_
          have hf1 : FOk (fun _ => True) wr ⟨Ax, nx, cx, none, 0, 0⟩ ⟨lx, []⟩ := ⟨hxB.by_, Recs.nil_ _ _⟩
          have hf2 : FOk (fun _ => True) wr ⟨A17, nx / 2, cx, A18, nx - nx / 2, cx - nx / 2⟩ ⟨lx.take (nx / 2), lx.drop (nx / 2)⟩ := ⟨(show Bytes _ wr _ _ from hB17).by_, (show Bytes _ wr _ _ from hB18).by_⟩
          have hFs := lit_files2 wr _ _ _ _ _ hf1 hf2
          obtain ⟨W19, hW19, b19, k19, S19, r19⟩ := boxD W16 wr #[.slice Ax nx cx, .slice none 0 0, .slice A17 (nx / 2) cx, .slice A18 (nx - nx / 2) (cx - nx / 2)] 42 hbr
          rw [← hW19] at hFs
          rw [← hW19]
          have hfl : ∀ f ∈ [(⟨lx, []⟩ : Fil), ⟨lx.take (nx / 2), lx.drop (nx / 2)⟩], flen f ≤ 2000 := by
            have e := HNX.out
            intro f hf
            simp only [List.mem_cons, List.not_mem_nil, or_false] at hf
            rcases hf with rfl | rfl <;> simp only [flen, List.length_take, List.length_drop, List.length_nil] <;> omega
          have HFL := Lib.hid hfl
          obtain ⟨FF, hFF⟩ : ∃ FF, [(⟨lx, []⟩ : Fil), ⟨lx.take (nx / 2), lx.drop (nx / 2)⟩] = FF := ⟨_, rfl⟩
          rw [hFF] at hFs HFL
          clear hW19 r19 hFF hfl hf1 hf2 hB17 hB18 hcx hxB
          go_wp2_with fail
          go_loopw [93] (fun i wr => ∃ k2 : Nat, i = .int .i64 k2 ∧ k2 ≤ 2 ∧ Below W19.heap.size W19 wr) (fun i _ => 2 - (intOf i).toNat)
          case atStart => exact ⟨0, rfl, by omega, (Below.refl _ _).drew⟩
          case round =>
            obtain ⟨k2, rfl, hk2b, hbr2⟩ := hrel
            by_cases hlt2 : k2 < 2
            · obtain ⟨bf, of, xf, ff, hA, hbf, hff, hfo, hc1, hc2⟩ := (hFs.ext hbr2).at_ hlt2
              cases hA
              rw [Nat.zero_add] at hc1 hc2
              have hfs := HFL.out ff (List.mem_of_getElem? hff)
              clear hff
              have dk2 : decide ((k2 : Int) < 2) = true := by simp; omega
              obtain ⟨W20, hW20, b20, k20, S20, r20⟩ := boxD W16 wr #[.slice xf.A1 xf.n1 xf.c1, .slice xf.A2 xf.n2 xf.c2] 42 (Below.ext b19 hbr2)
              go_upto_region 17 with (refine wpList_store_new rfl 42 _ _ rfl 42 _ #[.slice xf.A1 xf.n1 xf.c1, .slice xf.A2 xf.n2 xf.c2] rfl rfl (by kernel_rfl) rfl (by simp [Value.oneCell']) ?_)
              rw [← hW20]
              clear hW20
              have hM20 := hM16.ext b20
              have hf20 := hfo.ext k20
              have hM20' : FOk (fun _ => True) W20 ⟨none, 0, 0, a1, len1, cap1⟩ ⟨[], more⟩ := ⟨Recs.nil_ _ _, hM20.by_⟩
              have hD21 := lit_files2 W20 _ _ _ _ _ hM20' (hf20.mono (fun _ _ _ => trivial))
              obtain ⟨W21, hW21, b21, k21, S21, r21⟩ := boxD W16 W20 #[.slice none 0 0, .slice a1 len1 cap1, .slice xf.A1 xf.n1 xf.c1, .slice xf.A2 xf.n2 xf.c2] 42 b20
              rw [← hW21] at hD21
              obtain ⟨W22, hW22, b22, k22, S22, r22⟩ := boxD W16 W21 #[.slice (some ⟨W20.heap.size, 0, none⟩) 2 2] 45 b21
              have hD22 := hD21.ext k22
              rw [hW21] at hW22
              go_upto_region 18 with (first | (refine wpList_load_row rfl 42 _ rfl _ rfl 42 _ (0,0) _ r20.out Try.underlying42 rfl (by kernel_rfl) ?_) | (refine wpList_store_new rfl 45 _ _ rfl 45 _ #[.slice (some ⟨W20.heap.size, 0, none⟩) 2 2] rfl rfl (by kernel_rfl) rfl (by simp [Value.oneCell']) ?_))
              rw [← hW22]
              clear hW22 hW21 hc1 hc2
              obtain ⟨W23, hW23, b23, k23, S23, r23⟩ := boxD W16 W22 #[.int .i64 1, .int .i64 a2] 3 b22
              have hZ := lit_two W22 1 a2
              rw [← hW23] at hZ
              have hD23 := hD22.ext k23
              have hlen23 : ∀ f ∈ [(⟨[], more⟩ : Fil), ff], flen f ≤ 30000 := by
                intro f hf
                simp only [List.mem_cons, List.not_mem_nil, or_false] at hf
                rcases hf with rfl | rfl
                · simp only [flen, List.length_nil]; have := HM.out; omega
                · omega
              have HL23 := Lib.hid hlen23
              have R23 := Lib.hid ((k23.block W21.heap.size (by have := S22.out; omega)).trans r22.out)
              rw [S21.out] at R23
              have l23 : W20.heap.size + 1 < W23.heap.size := by have := S21.out; have := S22.out; have := S23.out; omega
              obtain ⟨GG, hGG⟩ : ∃ GG, [(⟨[], more⟩ : Fil), ff] = GG := ⟨_, rfl⟩
              have HGL : GG.length = 2 := by rw [← hGG]; rfl
              have HGL2 := Lib.hid HGL
              rw [hGG] at hD23 HL23
              clear r23 r22 hGG HGL hlen23 hD22 hD21 hM20' hf20 hM20 hfo r20
              go_wp2_with fail
              rw [← hW23]
              clear hW23
              go_loopw [105] (fun i wr => ∃ k3 : Nat, i = .int .i64 k3 ∧ k3 ≤ 2 ∧ Below W23.heap.size W23 wr) (fun i _ => 2 - (intOf i).toNat)
              case atStart => exact ⟨0, rfl, by omega, Below.refl _ _⟩
              case round =>
                obtain ⟨k3, rfl, hk3b, hbr3⟩ := hrel
                by_cases hlt3 : k3 < 2
                · obtain ⟨bz, oz, z, hA, _, hbz, hzz, hcz⟩ := (hZ.ext hbr3).at_ encZ_len (j := k3) (by simpa using hlt3) (by omega)
                  cases hA
                  have cz := hcz 0 _ rfl
                  rw [Nat.mul_one, Nat.add_zero, Nat.zero_add] at cz
                  clear hcz hzz
                  have dk3 : decide ((k3 : Int) < 2) = true := by simp; omega
                  obtain ⟨l, r, rn, er, hR⟩ := OpenR.ex GG 2 z HGL2.out
                  have HR := Lib.hid hR
                  clear hR
                  have R24 := Lib.hid ((hbr3.block _ l23).trans R23.out)
                  obtain ⟨nl, hnl⟩ : ∃ nl, l.length = nl := ⟨_, rfl⟩
                  have HNL := Lib.hid hnl
                  clear hnl
                  have hs3 := hbr3.size
                  go_wp2_with (refine wpList_load_row rfl 45 _ rfl _ rfl 45 _ (0,0) _ R24.out Try.underlying45 rfl (by kernel_rfl) ?_)
                  refine (walopen_go _ 2 2 GG _ wr (hD23.ext hbr3) (by omega) z HL23.out l r rn er HR.out).mono ?_
                  rintro e w24 ⟨A24, c24, B24, e24, rfl, hL24, hD24, hb24⟩
                  rw [HNL.out] at hL24 ⊢
                  obtain ⟨W25, hW25, b25, k25, S25, r25⟩ := boxD W23 w24 #[.slice B24 rn e24] 45 (Below.ext hbr3 hb24)
                  go_upto_region 22 with (refine wpList_store_new rfl 45 _ _ rfl 45 _ #[.slice B24 rn e24] rfl rfl (by kernel_rfl) rfl (by simp [Value.oneCell']) ?_)
                  rw [← hW25]
                  clear hW25
                  have R25 := Lib.hid ((b25.block _ l23).trans R23.out)
                  have hs24 := hb24.size
                  go_wp2_with (refine wpList_load_row rfl 45 _ rfl _ rfl 45 _ (0,0) _ R25.out Try.underlying45 rfl (by kernel_rfl) ?_)
                  refine (refopen_go _ 2 2 GG _ W25 (hD23.ext b25) (by omega) z HL23.out l r rn er HR.out).mono ?_
                  rintro e w26 ⟨A26, c26, B26, e26, rfl, hL26, hD26, hb26⟩
                  rw [HNL.out] at hL26 ⊢
                  have hs26 := hb26.size
                  obtain ⟨W27, hW27, b27, k27, S27, r27⟩ := boxD W23 w26 #[.slice B26 rn e26] 45 (Below.ext b25 hb26)
                  go_upto_region 23 with (refine wpList_store_new rfl 45 _ _ rfl 45 _ #[.slice B26 rn e26] rfl rfl (by kernel_rfl) rfl (by simp [Value.oneCell']) ?_)
                  rw [← hW27]
                  clear hW27
                  have k2527 := Below.ext hb26 k27
                  have q1 : (er != er) = false := by simp
                  have rn2 : rn ≤ 1000 := by rcases HR.out with ⟨j, f, _, _, _, _, rfl, _⟩ | ⟨_, _, _, rfl, _⟩ <;> omega
                  go_wp2_with fail
                  refine (samedets_eq _ _ nl _ _ l _ _ W27 ((hL24.ext k25).ext k2527) (hL26.ext k27)).mono ?_
                  rintro e w28 ⟨rfl, hb28⟩
                  have X1 := Lib.hid ((hb28.block _ (by have := S25.out; have := S27.out; omega)).trans ((k2527.block _ (by have := S25.out; omega)).trans r25.out))
                  have X2 := Lib.hid ((hb28.block _ (by have := S27.out; omega)).trans r27.out)
                  have x1 : w28.cell? ⟨w24.heap.size, 0, none⟩ = some (.slice B24 rn e24) := row_cell X1.out 0 _ rfl
                  have x2 : w28.cell? ⟨w26.heap.size, 0, none⟩ = some (.slice B26 rn e26) := row_cell X2.out 0 _ rfl
                  go_wp2_with fail
                  refine (samedisk_eq _ _ rn _ _ r _ _ w28 (((hD24.ext k25).ext k2527).ext hb28) ((hD26.ext k27).ext hb28) (by omega)).mono ?_
                  rintro e w29 ⟨rfl, hb29⟩
                  go_wp2
                  go_roundw
                  case rel => exact ⟨k3 + 1, by go_num, by omega, Below.ext (Below.ext b27 hb28) hb29⟩
                  case measure => simp [intOf]; omega
                · obtain rfl : k3 = 2 := by omega
                  go_wp2
                  go_roundw
                  case rel => exact ⟨k2 + 1, by go_num, by omega, Below.ext hbr2 (Below.ext (Below.ext (Below.ext k20 k21) (Below.ext k22 k23)) hbr3)⟩
                  case measure => simp [intOf]; omega
            · obtain rfl : k2 = 2 := by omega
              go_wp2
              go_roundw
              case rel => exact ⟨k + 1, by go_num, by omega, Below.ext b19 hbr2⟩
              case measure => simp [intOf]; omega
        · obtain rfl : k = 4 := by omega
          go_wp2
          go_ret
          exact ⟨rfl, Below.ext b16 hbr⟩
  · have dl : decide (500 < len1) = true := by simp; omega
    have dl' : decide ((500 : Int) < (len1 : Int)) = true := by simp; omega
    go_wp2
    go_ret
    exact ⟨rfl, hb1⟩
end Go.Proofs.Ytjcfnpmgklliiaa.walOpens
