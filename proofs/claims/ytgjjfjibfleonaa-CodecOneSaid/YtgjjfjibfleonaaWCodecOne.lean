/-
  The walk of the law CodecOne: it returns true and writes nothing that was there. Conditions: what the row says of its arguments.
-/
import Derived.Test.YtgjjfjibfleonaaCodecLaw
import Derived.Test.YtgjjfjibfleonaaLawSame
import Derived.Test.YtgjjfjibfleonaaOne
import Derived.WalkKit
import Derived.ProofKit
import Derived.OpenShut
import Derived.ShutString
import Derived.Below
namespace Go.Proofs.Ytgjjfjibfleonaa.codecOne
open Go.ChangeShapes Go.WideShapes Go.ChangeAt Go.RowKit
open Go.ChangeMaps (open_string shut_string)
set_option linter.unusedVariables false
set_option maxRecDepth 100000

set_option maxHeartbeats 4000000 in
theorem walk (a0 : Option Addr) (len0 cap0 : Nat) (z0 : List Int) (w : World) (w0 : IsRow .u8 w a0 len0 cap0 z0) :
    Calls Try.prog 6 #[.slice a0 len0 cap0] w fun e w' => e = .returned (.bool true) ∧ Below w.heap.size w w' := by
  obtain ⟨L, hk1, hk2, hk3, hkB⟩ := IsRow.bytes w0
  clear w0
  have HL := Lib.hid hk1
  have hkl := hkB.len
  have HLL := Lib.hid hkl.1
  have hcap := hkl.2
  clear hk1 hkl
  obtain ⟨v1, q1, x1, hr1, hO1⟩ := intOne L
  obtain ⟨a, q2, x2, hr2, hO2⟩ := evOne L
  obtain ⟨ts, q3, x3, hr3, hO3⟩ := pgsOne L
  obtain ⟨s, q4, x4, hr4, hO4⟩ := stOne L
  go_enter Try.func6, Try.ntmps6
  go_wp2_with fail
  refine (awakeC_any _).mono ?_
  rintro e w1 ⟨rfl, hb1⟩
  by_cases hlen : len0 ≤ 400
  · have dl : decide (400 < len0) = false := by simpa using hlen
    have dl' : decide ((400 : Int) < (len0 : Int)) = false := by simp; omega
    have h1 := codecInt_any a0 len0 cap0 0 L _ w1 (hkB.ext hb1) (by omega)
    rw [hr1] at h1
    have H1 := Lib.hid h1
    clear h1 hr1
    go_wp2_with fail
    refine (H1.out).mono ?_
    rintro e w2 ⟨rfl, g2⟩
    have b2 := Below.ext hb1 g2
    go_upto_region 6 with fail
    go_cut [46] from 20 (fun s46 wx => s46 = .bool false ∧ Below w2.heap.size w2 wx)
    case first =>
      by_cases hx : x1 = 0
      · obtain ⟨n, rfl, hs⟩ := hO1 hx
        have sl := hs.lo
        have sh := hs.hi
        have se := seg0 hs
        have si := hs.inr
        have hn := HLL.out
        have hlow : 1 ≤ n := by simpa using sl
        subst hx
        have d1 : decide ((n : Int) < 1) = false := by simp; omega
        have d2 : decide ((len0 : Int) < (n : Int)) = false := by simp; omega
        have d3 : decide (len0 < n) = false := by simp; omega
        have d4 : decide (n < 1) = false := by simp; omega
        clear sl
        go_wp2_with fail
        refine wp_region_lex (fun _ => True) (by kernel_rfl) (by kernel_rfl) trivial ?_
        repeat (first | (refine lex_q rfl ⟨default, trivial⟩ ?_; go_big_quiet_step (fail); refine wpQuiet_nil ?_) | (refine lex_skip rfl rfl trivial ?_; simp only [Act.put, List.setIfInBounds_toArray, List.set_cons_succ, List.set_cons_zero]) | (refine lex_e rfl ?_; go_wp2_with fail; refine lex_go trivial ?_))
        refine lex_e rfl ?_
        go_wp2_with fail
        refine (putint_any none 0 0 v1 [] (fun _ => True) _ (Bytes.nil_ _ _) (by omega) (si v1 (by simp)).1 (si v1 (by simp)).2).mono ?_
        rintro e w3 ⟨v3, rfl, hv3, g3⟩
        go_wp2_with fail
        refine lex_go trivial ?_
        repeat (first | (refine lex_q rfl ⟨default, trivial⟩ ?_; go_big_quiet_step (fail); refine wpQuiet_nil ?_) | (refine lex_skip rfl rfl trivial ?_; simp only [Act.put, List.setIfInBounds_toArray, List.set_cons_succ, List.set_cons_zero]) | (refine lex_e rfl ?_; go_wp2_with fail; refine lex_go trivial ?_))
        have he : [] ++ encI v1 = L.take n := by simpa [encs] using se
        rw [he] at hv3
        refine lex_e rfl ?_
        go_wp2_with fail
        refine (samebytes_eq _ _ (L.take n) _ _ w3 hv3.by_ ((((hkB.ext b2).drew).ext g3).take_ (by omega)).by_).mono ?_
        rintro e w4 ⟨rfl, g4⟩
        go_wp2_with fail
        refine lex_go trivial ?_
        repeat (first | (refine lex_q rfl ⟨default, trivial⟩ ?_; go_big_quiet_step (fail); refine wpQuiet_nil ?_) | (refine lex_skip rfl rfl trivial ?_; simp only [Act.put, List.setIfInBounds_toArray, List.set_cons_succ, List.set_cons_zero]) | (refine lex_e rfl ?_; go_wp2_with fail; refine lex_go trivial ?_))
        refine lex_nil ?_
        go_wp2_with fail
        go_meet
        case rel => exact ⟨rfl, Below.ext (Below.ext (Below.refl _ _).drew g3) g4⟩
      · have d0 : (x1 == 0) = false := by simpa using hx
        go_wp2_with fail
        refine wp_region_lex (fun _ => True) (by kernel_rfl) (by kernel_rfl) trivial ?_
        repeat (first | (refine lex_q rfl ⟨default, trivial⟩ ?_; go_big_quiet_step (fail); refine wpQuiet_nil ?_) | (refine lex_skip rfl rfl trivial ?_; simp only [Act.put, List.setIfInBounds_toArray, List.set_cons_succ, List.set_cons_zero]) | (refine lex_e rfl ?_; go_wp2_with fail; refine lex_go trivial ?_))
        refine lex_nil ?_
        go_wp2_with fail
        go_meet
        case rel => exact ⟨rfl, (Below.refl _ _).drew⟩
    case rest =>
      obtain ⟨rfl, gc1⟩ := hcut
      have bc1 := Below.ext b2 gc1
      clear gc1 g2 b2 H1 hO1
      go_wp2_with fail
      refine (codecEvent_any a0 len0 cap0 0 L _ wc (hkB.ext bc1) (by omega)).mono ?_
      rintro e w5 ⟨hr, g⟩
      obtain rfl := hr2 _ _ hr
      clear hr
      have b5 := Below.ext bc1 g
      clear g
      obtain ⟨Ww5, hW, bw5, kw5, sw5, rw5⟩ := newB1 w w5 w.heap.size #[Value.int .i64 a.k0, Value.int .i64 a.k1, Value.int .i64 a.k2, Value.int .i64 a.k3, Value.int .i64 a.k4, Value.int .i64 a.k5, Value.int .i64 a.k6] 35 b5 b5.size
      have Rw5 := Lib.hid rw5
      clear rw5
      go_upto_region 9 with (refine wpList_store_new rfl 35 _ _ rfl 35 _ #[Value.int .i64 a.k0, Value.int .i64 a.k1, Value.int .i64 a.k2, Value.int .i64 a.k3, Value.int .i64 a.k4, Value.int .i64 a.k5, Value.int .i64 a.k6] rfl rfl (by kernel_rfl) rfl (by simp [Value.oneCell']) ?_)
      rw [← hW]
      clear hW
      go_cut [73] from 47 (fun s73 wx => s73 = .bool false ∧ Below Ww5.heap.size Ww5 wx)
      case first =>
        by_cases hx : x2 = 0
        · obtain ⟨n, rfl, hs⟩ := hO2 hx
          have sl := hs.lo
          have sh := hs.hi
          have se := seg0 hs
          have si := hs.inr
          have hn := HLL.out
          have hlow : 7 ≤ n := by simpa [Ev.l] using sl
          subst hx
          have d1 : decide ((n : Int) < 7) = false := by simp; omega
          have d2 : decide ((len0 : Int) < (n : Int)) = false := by simp; omega
          have d3 : decide (len0 < n) = false := by simp; omega
          have d4 : decide (n < 7) = false := by simp; omega
          clear sl
          go_wp2_with fail
          refine wp_region_lexL (Below Ww5.heap.size Ww5) (by kernel_rfl) (by kernel_rfl) ((Below.refl _ _).drew) ?_
          repeat (first | (refine lexL_q0 rfl ?_; go_big_quiet_step (fail); refine wpQuiet_nil ?_) | (refine lexL_skip0 rfl rfl ?_; simp only [Act.put, List.setIfInBounds_toArray, List.set_cons_succ, List.set_cons_zero]))
          refine lexL_ld (⟨w5.heap.size, 0, none⟩) (.agg #[Value.int .i64 a.k0, Value.int .i64 a.k1, Value.int .i64 a.k2, Value.int .i64 a.k3, Value.int .i64 a.k4, Value.int .i64 a.k5, Value.int .i64 a.k6]) rfl rfl rfl (fun w' hS => run_ld_block ((hS.block _ (by omega)).trans Rw5.out) Try.underlying35 rfl (by kernel_rfl)) ?_
          simp only [Act.put, List.setIfInBounds_toArray, List.set_cons_succ, List.set_cons_zero]
          repeat (first | (refine lexL_q0 rfl ?_; go_big_quiet_step (fail); refine wpQuiet_nil ?_) | (refine lexL_skip0 rfl rfl ?_; simp only [Act.put, List.setIfInBounds_toArray, List.set_cons_succ, List.set_cons_zero]))
          refine lexL_e rfl ?_
          go_wp2_with fail
          have hp := putEvent_any none 0 0 [] (fun _ => True) Ww5.drew (Bytes.nil_ _ _) a si (by omega)
          unfold evV at hp
          refine hp.mono ?_
          rintro e w6 ⟨v6, rfl, hv6, g6⟩
          have k6 := Below.ext (Below.refl _ Ww5).drew g6
          go_wp2_with fail
          refine lexL_go (k6) ?_
          repeat (first | (refine lexL_q0 rfl ?_; go_big_quiet_step (fail); refine wpQuiet_nil ?_) | (refine lexL_skip0 rfl rfl ?_; simp only [Act.put, List.setIfInBounds_toArray, List.set_cons_succ, List.set_cons_zero]))
          rw [List.nil_append, se] at hv6
          refine lexL_e rfl ?_
          go_wp2_with fail
          refine (samebytes_eq _ _ (L.take n) _ _ w6 hv6.by_ (((hkB.ext bw5).ext k6).take_ (by omega)).by_).mono ?_
          rintro e w7 ⟨rfl, g7⟩
          go_wp2_with fail
          refine lexL_go (Below.ext k6 g7) ?_
          repeat (first | (refine lexL_q0 rfl ?_; go_big_quiet_step (fail); refine wpQuiet_nil ?_) | (refine lexL_skip0 rfl rfl ?_; simp only [Act.put, List.setIfInBounds_toArray, List.set_cons_succ, List.set_cons_zero]))
          refine lexL_nil ?_
          go_wp2_with fail
          go_meet
          case rel => exact ⟨rfl, Below.ext k6 g7⟩
        · have d0 : (x2 == 0) = false := by simpa using hx
          go_wp2_with fail
          refine wp_region_lexL (Below Ww5.heap.size Ww5) (by kernel_rfl) (by kernel_rfl) ((Below.refl _ _).drew) ?_
          repeat (first | (refine lexL_q0 rfl ?_; go_big_quiet_step (fail); refine wpQuiet_nil ?_) | (refine lexL_skip0 rfl rfl ?_; simp only [Act.put, List.setIfInBounds_toArray, List.set_cons_succ, List.set_cons_zero]))
          refine lexL_skip rfl rfl ((Below.refl _ _).drew) ?_
          simp only [Act.put, List.setIfInBounds_toArray, List.set_cons_succ, List.set_cons_zero]
          repeat (first | (refine lexL_q0 rfl ?_; go_big_quiet_step (fail); refine wpQuiet_nil ?_) | (refine lexL_skip0 rfl rfl ?_; simp only [Act.put, List.setIfInBounds_toArray, List.set_cons_succ, List.set_cons_zero]))
          refine lexL_skip rfl rfl ((Below.refl _ _).drew) ?_
          simp only [Act.put, List.setIfInBounds_toArray, List.set_cons_succ, List.set_cons_zero]
          repeat (first | (refine lexL_q0 rfl ?_; go_big_quiet_step (fail); refine wpQuiet_nil ?_) | (refine lexL_skip0 rfl rfl ?_; simp only [Act.put, List.setIfInBounds_toArray, List.set_cons_succ, List.set_cons_zero]))
          refine lexL_nil ?_
          go_wp2_with fail
          go_meet
          case rel => exact ⟨rfl, (Below.refl _ _).drew⟩
      case rest =>
        obtain ⟨rfl, gc2⟩ := hcut
        have bc2 := Below.ext bw5 gc2
        clear gc2 hO2 hr2 Rw5
        go_wp2_with fail
        refine (codecPages_any a0 len0 cap0 0 L _ wc (hkB.ext bc2) (by omega)).mono ?_
        rintro e w8 ⟨hr, g⟩
        obtain ⟨P1, pc1, rfl, hP⟩ := hr3 _ _ _ hr
        clear hr
        have b8 := Below.ext bc2 g
        clear g
        obtain ⟨np, hnp⟩ : ∃ np, ts.length = np := ⟨_, rfl⟩
        rw [hnp] at hP
        rw [hnp]
        go_upto_region 12 with fail
        go_cut [100] from 74 (fun s100 wx => s100 = .bool false ∧ Below w8.heap.size w8 wx)
        case first =>
          by_cases hx : x3 = 0
          · obtain ⟨n, rfl, hs⟩ := hO3 hx
            have sl := hs.lo
            have sh := hs.hi
            have se := seg0 hs
            have si := hs.inr
            obtain ⟨po, pl⟩ := pgs_ok hs (by have := HLL.out; omega)
            have hn := HLL.out
            have hlow : 1 ≤ n := by simp [pgL] at sl; omega
            subst hx
            have d1 : decide ((n : Int) < 1) = false := by simp; omega
            have d2 : decide ((len0 : Int) < (n : Int)) = false := by simp; omega
            have d3 : decide (len0 < n) = false := by simp; omega
            have d4 : decide (n < 1) = false := by simp; omega
            clear sl
            go_wp2_with fail
            refine wp_region_lex (fun _ => True) (by kernel_rfl) (by kernel_rfl) trivial ?_
            repeat (first | (refine lex_q rfl ⟨default, trivial⟩ ?_; go_big_quiet_step (fail); refine wpQuiet_nil ?_) | (refine lex_skip rfl rfl trivial ?_; simp only [Act.put, List.setIfInBounds_toArray, List.set_cons_succ, List.set_cons_zero]) | (refine lex_e rfl ?_; go_wp2_with fail; refine lex_go trivial ?_))
            refine lex_e rfl ?_
            go_wp2_with fail
            refine (putPages_any none 0 0 [] (fun _ => True) w8.drew (Bytes.nil_ _ _) P1 np pc1 ts (Pgs.lt_ hP) po (by omega) (by omega)).mono ?_
            rintro e w9 ⟨v9, rfl, hv9, g9⟩
            go_wp2_with fail
            refine lex_go trivial ?_
            repeat (first | (refine lex_q rfl ⟨default, trivial⟩ ?_; go_big_quiet_step (fail); refine wpQuiet_nil ?_) | (refine lex_skip rfl rfl trivial ?_; simp only [Act.put, List.setIfInBounds_toArray, List.set_cons_succ, List.set_cons_zero]) | (refine lex_e rfl ?_; go_wp2_with fail; refine lex_go trivial ?_))
            rw [List.nil_append, se] at hv9
            refine lex_e rfl ?_
            go_wp2_with fail
            refine (samebytes_eq _ _ (L.take n) _ _ w9 hv9.by_ ((((hkB.ext b8).drew).ext g9).take_ (by omega)).by_).mono ?_
            rintro e w10 ⟨rfl, g10⟩
            go_wp2_with fail
            refine lex_go trivial ?_
            repeat (first | (refine lex_q rfl ⟨default, trivial⟩ ?_; go_big_quiet_step (fail); refine wpQuiet_nil ?_) | (refine lex_skip rfl rfl trivial ?_; simp only [Act.put, List.setIfInBounds_toArray, List.set_cons_succ, List.set_cons_zero]) | (refine lex_e rfl ?_; go_wp2_with fail; refine lex_go trivial ?_))
            refine lex_nil ?_
            go_wp2_with fail
            go_meet
            case rel => exact ⟨rfl, Below.ext (Below.ext (Below.refl _ _).drew g9) g10⟩
          · have d0 : (x3 == 0) = false := by simpa using hx
            go_wp2_with fail
            refine wp_region_lex (fun _ => True) (by kernel_rfl) (by kernel_rfl) trivial ?_
            repeat (first | (refine lex_q rfl ⟨default, trivial⟩ ?_; go_big_quiet_step (fail); refine wpQuiet_nil ?_) | (refine lex_skip rfl rfl trivial ?_; simp only [Act.put, List.setIfInBounds_toArray, List.set_cons_succ, List.set_cons_zero]) | (refine lex_e rfl ?_; go_wp2_with fail; refine lex_go trivial ?_))
            refine lex_nil ?_
            go_wp2_with fail
            go_meet
            case rel => exact ⟨rfl, (Below.refl _ _).drew⟩
        case rest =>
          obtain ⟨rfl, gc3⟩ := hcut
          have bc3 := Below.ext b8 gc3
          clear gc3 hO3 hr3 hP
          obtain ⟨n1, hn1⟩ : ∃ n1, n1 = s.cells.length := ⟨_, rfl⟩
          obtain ⟨n2, hn2⟩ : ∃ n2, n2 = s.evs.length := ⟨_, rfl⟩
          obtain ⟨n3, hn3⟩ : ∃ n3, n3 = s.sent.length := ⟨_, rfl⟩
          obtain ⟨n4, hn4⟩ : ∃ n4, n4 = s.outs.length := ⟨_, rfl⟩
          rw [← hn1, ← hn2, ← hn3, ← hn4] at hr4
          have H1 := Lib.hid hn1
          have H2 := Lib.hid hn2
          have H3 := Lib.hid hn3
          have H4 := Lib.hid hn4
          clear hn1 hn2 hn3 hn4
          go_wp2_with fail
          refine (codecState_any a0 len0 cap0 0 L _ wc (hkB.ext bc3) (by omega)).mono ?_
          rintro e w11 ⟨hr, g⟩
          obtain ⟨A1, c1, A2, c2, A3, c3, A4, c4, rfl, r1, r2, r3, r4⟩ := hr4 _ _ _ hr
          clear hr
          have b11 := Below.ext bc3 g
          clear g
          obtain ⟨Ww11, hW, bw11, kw11, sw11, rw11⟩ := newB1 w w11 w.heap.size #[Value.slice A1 n1 c1, Value.slice A2 n2 c2, Value.slice A3 n3 c3, Value.slice A4 n4 c4] 43 b11 b11.size
          have Rw11 := Lib.hid rw11
          clear rw11
          go_upto_region 15 with (refine wpList_store_new rfl 43 _ _ rfl 43 _ #[Value.slice A1 n1 c1, Value.slice A2 n2 c2, Value.slice A3 n3 c3, Value.slice A4 n4 c4] rfl rfl (by kernel_rfl) rfl (by simp [Value.oneCell']) ?_)
          rw [← hW]
          clear hW
          have b12 := (Below.refl Ww11.heap.size Ww11).drew
          have kd := Below.ext kw11 b12
          by_cases hx : x4 = 0
          · obtain ⟨n, rfl, hs⟩ := hO4 hx
            have sl := hs.lo
            have sh := hs.hi
            have se := seg0 hs
            have hn := HLL.out
            obtain ⟨so, e1, e2, e3⟩ := st_ok hs (by omega)
            have hlow : 4 ≤ n := by simp only [Stt.l, List.length_append, List.length_cons, List.length_nil] at sl; omega
            clear sl
            subst hx
            have d1 : decide ((4 : Int) ≤ (n : Int)) = true := by simp; omega
            have d2 : decide ((n : Int) ≤ (len0 : Int)) = true := by simp; omega
            have d3 : decide (n ≤ len0) = true := by simp; omega
            have d4 : decide (4 ≤ n) = true := by simp; omega
            go_wp2_with fail
            refine wp_region_lexL (Below Ww11.heap.size Ww11) (by kernel_rfl) (by kernel_rfl) ((Below.refl _ _).drew) ?_
            repeat (first | (refine lexL_q0 rfl ?_; go_big_quiet_step (fail); refine wpQuiet_nil ?_) | (refine lexL_skip0 rfl rfl ?_; simp only [Act.put, List.setIfInBounds_toArray, List.set_cons_succ, List.set_cons_zero]))
            refine lexL_ld (⟨w11.heap.size, 0, none⟩) (.agg #[Value.slice A1 n1 c1, Value.slice A2 n2 c2, Value.slice A3 n3 c3, Value.slice A4 n4 c4]) rfl rfl rfl (fun w' hS => run_ld_block ((hS.block _ (by omega)).trans Rw11.out) Try.underlying43 rfl (by kernel_rfl)) ?_
            simp only [Act.put, List.setIfInBounds_toArray, List.set_cons_succ, List.set_cons_zero]
            repeat (first | (refine lexL_q0 rfl ?_; go_big_quiet_step (fail); refine wpQuiet_nil ?_) | (refine lexL_skip0 rfl rfl ?_; simp only [Act.put, List.setIfInBounds_toArray, List.set_cons_succ, List.set_cons_zero]))
            refine lexL_e rfl ?_
            go_wp2_with fail
            refine (putState_any none 0 0 [] (fun _ => True) Ww11.drew (Bytes.nil_ _ _) s A1 A2 A3 A4 n1 c1 n2 c2 n3 c3 n4 c4 (rlo (r1.ext kd)) (rlo (r2.ext kd)) (rlo (r3.ext kd)) (rlo (r4.ext kd)) so (by omega) (by have := H2.out; omega) (by have := H3.out; omega) (by have := H4.out; omega)).mono ?_
            rintro e w13 ⟨v13, rfl, hv13, g13⟩
            have k13 := Below.ext b12 g13
            go_wp2_with fail
            refine lexL_go (k13) ?_
            repeat (first | (refine lexL_q0 rfl ?_; go_big_quiet_step (fail); refine wpQuiet_nil ?_) | (refine lexL_skip0 rfl rfl ?_; simp only [Act.put, List.setIfInBounds_toArray, List.set_cons_succ, List.set_cons_zero]))
            rw [List.nil_append, se] at hv13
            refine lexL_e rfl ?_
            go_wp2_with fail
            refine (samebytes_eq _ _ (L.take n) _ _ w13 hv13.by_ (((hkB.ext bw11).ext k13).take_ (by omega)).by_).mono ?_
            rintro e w14 ⟨rfl, g14⟩
            go_wp2_with fail
            refine lexL_go (Below.ext k13 g14) ?_
            repeat (first | (refine lexL_q0 rfl ?_; go_big_quiet_step (fail); refine wpQuiet_nil ?_) | (refine lexL_skip0 rfl rfl ?_; simp only [Act.put, List.setIfInBounds_toArray, List.set_cons_succ, List.set_cons_zero]))
            refine lexL_nil ?_
            go_wp2_with fail
            go_ret
            exact ⟨rfl, Below.ext bw11 (Below.ext k13 g14)⟩
          · have d0 : (x4 == 0) = false := by simpa using hx
            have d0n : (x4 != 0) = true := by simpa using hx
            go_wp2_with fail
            refine wp_region_lexL (Below Ww11.heap.size Ww11) (by kernel_rfl) (by kernel_rfl) ((Below.refl _ _).drew) ?_
            repeat (first | (refine lexL_q0 rfl ?_; go_big_quiet_step (fail); refine wpQuiet_nil ?_) | (refine lexL_skip0 rfl rfl ?_; simp only [Act.put, List.setIfInBounds_toArray, List.set_cons_succ, List.set_cons_zero]))
            refine lexL_skip rfl rfl (b12) ?_
            simp only [Act.put, List.setIfInBounds_toArray, List.set_cons_succ, List.set_cons_zero]
            repeat (first | (refine lexL_q0 rfl ?_; go_big_quiet_step (fail); refine wpQuiet_nil ?_) | (refine lexL_skip0 rfl rfl ?_; simp only [Act.put, List.setIfInBounds_toArray, List.set_cons_succ, List.set_cons_zero]))
            refine lexL_skip rfl rfl (b12) ?_
            simp only [Act.put, List.setIfInBounds_toArray, List.set_cons_succ, List.set_cons_zero]
            repeat (first | (refine lexL_q0 rfl ?_; go_big_quiet_step (fail); refine wpQuiet_nil ?_) | (refine lexL_skip0 rfl rfl ?_; simp only [Act.put, List.setIfInBounds_toArray, List.set_cons_succ, List.set_cons_zero]))
            refine lexL_nil ?_
            go_wp2_with fail
            go_ret
            exact ⟨rfl, Below.ext bw11 b12⟩
  · have dl : decide (400 < len0) = true := by simp; omega
    have dl' : decide ((400 : Int) < (len0 : Int)) = true := by simp; omega
    go_wp2
    go_ret
    exact ⟨rfl, hb1⟩
end Go.Proofs.Ytgjjfjibfleonaa.codecOne
