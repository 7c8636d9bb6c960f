/-
  The walk of the law ReceiverlogCounts: it returns true and writes nothing that was there. Conditions: what the row says of its arguments.
-/
import Derived.Test.YtjcfnpmgklliiaaRlK
namespace Go.Proofs.Ytjcfnpmgklliiaa.receiverlogCounts
open Go.RowKit
set_option maxRecDepth 100000
set_option linter.unusedVariables false

set_option maxHeartbeats 8000000 in
theorem walk (A0 : Option Addr) (n0 c0 : Nat) (l : List Dt) (proc from_ : Int) (a3 : Option Addr) (len3 cap3 : Nat) (codes : List UInt8) (S0 S3 : Nat → Prop) (w : World) (hl : Recs encDt S0 w (.slice A0 n0 c0) l) (hin : ∀ d ∈ l, DtIn d) (hp : InR proc) (hf : InR from_) (hk : Bytes S3 w (.slice a3 len3 cap3) codes) :
    Calls Try.prog 12 #[.slice A0 n0 c0, .int .i64 proc, .int .i64 from_, .slice a3 len3 cap3] w fun e w' => e = .returned (.bool true) ∧ Below w.heap.size w w' := by
  have HL := Lib.hid hl.len
  have HK := Lib.hid hk.len
  have hle := hl.len.2
  have HIN := Lib.hid hin
  clear hin
  go_enter Try.func12, Try.ntmps12
  go_wp2_with fail
  refine (awake30_any _).mono ?_
  rintro e w1 ⟨rfl, hb1⟩
  by_cases h1 : n0 ≤ 60
  · have d1 : decide (60 < n0) = false := by simpa using h1
    have d1' : decide ((60 : Int) < (n0 : Int)) = false := by simp; omega
    go_wp2_with fail
    refine (codnew_any _ codes _ _ 200 (by omega) (hk.ext hb1)).mono ?_
    rintro e w2 ⟨g, rfl, hC, hb2⟩
    go_wp2_with fail
    refine (coddets_any _ g 10 w2 hC (by omega)).mono ?_
    rintro e w3 ⟨A1, c1, l1, rfl, hl1, hin1, hO1, hC1, hg1⟩
    have hglt := hC.lt
    obtain ⟨n1, hn1⟩ : ∃ n1, l1.length = n1 := ⟨_, rfl⟩
    rw [hn1] at hl1 hO1 ⊢
    go_wp2_with fail
    refine (coddets_any _ g 10 w3 hC1 (by omega)).mono ?_
    rintro e w4 ⟨A2, c2, l2, rfl, hl2, hin2, hO2, hC2, hg2⟩
    obtain ⟨n2, hn2⟩ : ∃ n2, l2.length = n2 := ⟨_, rfl⟩
    rw [hn2] at hl2 hO2 ⊢
    have hO1' : OwnR encDt 9 w4 w2.heap.size 38 (.slice A1 n1 c1) l1 := hO1.kept hg2 (by
      right
      intro e
      have := World.ownsRow.lt hO1 g e
      omega)
    have HN1 := Lib.hid hn1
    have HN2 := Lib.hid hn2
    have s3 := hg1.size
    have s4 := hg2.size
    have b2 := Below.ext hb1 hb2
    have hs2 := hb2.size
    have hs1 := hb1.size
    clear hn1 hn2
    go_wp2_with (refine wpList_appR (o := ⟨some 29, _, _, _, _, _⟩) encDt_len encDt_one (.agg #[.int .i64 0, .int .i64 0, .int .i64 0, .int .i64 0, .int .i64 0, .int .i64 0, .int .i64 0, .int .i64 0, .int .i64 0]) 72 _ _ 27 38 w2.heap.size l1 l2 A2 n2 c2 (.slice A1 n1 c1) (n1 + n2) rfl rfl Try.underlying27 infoDt rfl (by omega) rfl rfl hO1' hO2.recs (by rw [HN1.out]) (by rw [HN1.out]; omega) (by rw [HN1.out]; omega) (by omega) ?_; intro Az cz wz hOf hgrz hatz hcz1 hcz2)
    have hge := hC.1
    have b4 : Below w.heap.size w w4 := Below.grow (Below.grow b2 hg1 (by omega)) hg2 (by omega)
    have bz : Below w.heap.size w wz := OwnR.grow hO1' hgrz b4 (by omega) (by omega)
    have hlz := hl.ext bz
    have hinz : ∀ d ∈ l1 ++ l2, DtIn d := fun d hd => by
      rcases List.mem_append.1 hd with h | h
      · exact hin1 d h
      · exact hin2 d h
    have HINZ := Lib.hid hinz
    obtain ⟨N, hN⟩ : ∃ N, n1 + n2 = N := ⟨_, rfl⟩
    have hN20 : N ≤ 20 := by omega
    rw [hN] at hOf ⊢
    clear hN hinz hin1 hin2 hcz1 hatz hgrz hO2 hO1' hO1 b4 hcz2
    refine (mod_any proc 3 wz (by omega) (by omega) hp.1 hp.2).mono ?_
    rintro e w5 ⟨rfl, rfl⟩
    go_wp2_with fail
    refine (mod_any from_ 5 wz (by omega) (by omega) hf.1 hf.2).mono ?_
    rintro e w6 ⟨rfl, rfl⟩
    have hk5 : InR (from_ % 5 - 1) := ⟨by omega, by omega⟩
    obtain ⟨p, hpp⟩ : ∃ p, proc % 3 = p := ⟨_, rfl⟩
    obtain ⟨q, hqq⟩ : ∃ q, from_ % 5 = q := ⟨_, rfl⟩
    have hq5 : 0 ≤ q ∧ q ≤ 5 := ⟨by omega, by omega⟩
    rw [hqq] at hk5 ⊢
    rw [hpp]
    clear hqq hpp
    have hPl := uptoP_any A0 n0 c0 l proc from_ _ wz hlz HIN.out hf (by omega)
    have HPl := Lib.hid hPl
    have HDl := Lib.hid (fun w' (h : Below wz.heap.size wz w') => uptoD_any A0 n0 c0 l proc from_ _ w' (hlz.ext h) hf)
    have HPm := Lib.hid (fun w' (h : Below wz.heap.size wz w') => uptoP_any Az N cz (l1 ++ l2) p (q - 1) _ w' (hOf.recs.ext h) HINZ.out hk5 (by omega))
    have HDm := Lib.hid (fun w' (h : Below wz.heap.size wz w') => uptoD_any Az N cz (l1 ++ l2) p (q - 1) _ w' (hOf.recs.ext h) hk5)
    clear hPl
    go_upto_region 6 with fail
    go_wp2_with fail
    refine HPl.out.mono ?_
    rintro e x1 ⟨r1, rfl, hr1, hx1⟩
    go_wp2_with fail
    refine (HDl.out x1 hx1).mono ?_
    rintro e x2 ⟨r2, rfl, hr2, hx2⟩
    obtain rfl := hr1.uniq hr2
    have y2 := Below.ext hx1 hx2
    go_wp2_with fail
    refine (HPm.out x2 y2).mono ?_
    rintro e x3 ⟨r3, rfl, hr3, hx3⟩
    have y3 := Below.ext y2 hx3
    go_wp2_with fail
    refine (HDm.out x3 y3).mono ?_
    rintro e x4 ⟨r4, rfl, hr4, hx4⟩
    obtain rfl := hr3.uniq hr4
    have y4 := Below.ext y3 hx4
    go_wp2
    go_ret
    exact ⟨rfl, Below.ext bz y4⟩
  · have d1 : decide (60 < n0) = true := by simp; omega
    have d1' : decide ((60 : Int) < (n0 : Int)) = true := by simp; omega
    go_wp2
    go_ret
    exact ⟨rfl, hb1⟩
end Go.Proofs.Ytjcfnpmgklliiaa.receiverlogCounts
