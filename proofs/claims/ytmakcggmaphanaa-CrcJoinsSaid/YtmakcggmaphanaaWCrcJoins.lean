/-
  The walk of the law CrcJoins: it returns true and writes nothing that was there. Conditions: what the row says of its arguments.
-/
import Derived.Test.YtmakcggmaphanaaCrcWalk
import Derived.Test.YtmakcggmaphanaaCrcLaw
import Derived.Test.YtmakcggmaphanaaLex
import Derived.WalkKit
import Derived.ProofKit
import Derived.OpenShut
import Derived.ShutString
import Derived.Below
namespace Go.Proofs.Ytmakcggmaphanaa.crcJoins
open Go.ChangeShapes Go.WideShapes Go.ChangeAt Go.RowKit
open Go.ChangeMaps (open_string shut_string)
set_option linter.unusedVariables false
set_option maxRecDepth 100000

theorem walk (a0 : Int) (a1 : Option Addr) (len1 cap1 : Nat) (z1 : List Int) (a2 : Int) (w : World) (w0 : (Lit.int .u32 a0).wf = true) (w1 : IsRow .u8 w a1 len1 cap1 z1) (w2 : (Lit.int .i64 a2).wf = true) :
    Calls Try.prog 4 #[.int .u32 a0, .slice a1 len1 cap1, .int .i64 a2] w fun e w' => e = .returned (.bool true) ∧ Below w.heap.size w w' := by
  obtain ⟨l, hl, hcap, hmax, hb⟩ := IsRow.bytes w1
  have ha := wf_u32 w0
  have hat := wf_i64 w2
  obtain ⟨s, rfl⟩ := Int.eq_ofNat_of_zero_le ha.1
  have hs : s < 4294967296 := by omega
  clear w0 w1 w2 ha
  go_enter Try.func4, Try.ntmps4
  go_wp2_with fail
  refine (awake09_any _).mono ?_
  rintro e w1 ⟨rfl, hb1⟩
  by_cases hlen : len1 ≤ 2000
  · go_wp2_with fail
    refine (mod_any _ _ _ (by omega) (by omega) hat.1 hat.2).mono ?_
    rintro e w2 ⟨rfl, rfl⟩
    have hk0 := Int.emod_nonneg a2 (b := (len1 : Int) + 1) (by omega)
    have hk1 := Int.emod_lt_of_pos a2 (b := (len1 : Int) + 1) (by omega)
    obtain ⟨k, hk⟩ := Int.eq_ofNat_of_zero_le hk0
    rw [hk] at hk1 ⊢
    clear hk hk0 hat
    have hB := (hb.ext hb1).drew
    have hk : k ≤ len1 := by omega
    go_wp2_with fail
    refine wp_region_lex (fun _ => True) (by kernel_rfl) (by kernel_rfl) trivial ?_
    repeat (refine lex_q rfl ⟨default, trivial⟩ ?_; go_big_quiet_step (fail); refine wpQuiet_nil ?_)
    refine lex_e rfl ?_
    go_wp2_with fail
    refine (update_any s _ (l.take k) _ _ hs (hB.take_ hk)).mono ?_
    rintro e w2 ⟨rfl, hb2⟩
    go_wp2_with fail
    refine lex_go trivial ?_
    repeat (refine lex_q rfl ⟨default, trivial⟩ ?_; go_big_quiet_step (fail); refine wpQuiet_nil ?_)
    have hB2 := hB.ext hb2
    have hA1 := hB2.drop_ hk (q := cap1 = k) (fun e => by omega)
    generalize (if cap1 = k then a1 else Option.map (fun x => x.add k) a1) = A1 at hA1 ⊢
    refine lex_e rfl ?_
    go_wp2_with fail
    refine (update_any _ _ (l.drop k) _ _ (upd_lt hs _) hA1).mono ?_
    rintro e w3 ⟨rfl, hb3⟩
    rw [upd_append, List.take_append_drop]
    go_wp2_with fail
    refine lex_go trivial ?_
    repeat (refine lex_q rfl ⟨default, trivial⟩ ?_; go_big_quiet_step (fail); refine wpQuiet_nil ?_)
    have hB3 := hB2.ext hb3
    refine lex_e rfl ?_
    go_wp2_with fail
    refine (update_any s _ l _ _ hs hB3).mono ?_
    rintro e w4 ⟨rfl, hb4⟩
    go_wp2_with fail
    refine lex_go trivial ?_
    repeat (refine lex_q rfl ⟨default, trivial⟩ ?_; go_big_quiet_step (fail); refine wpQuiet_nil ?_)
    have hB4 := hB3.ext hb4
    refine lex_e rfl ?_
    go_wp2_with fail
    refine (of_any _ (l.take k) _ _ (hB4.take_ hk)).mono ?_
    rintro e w5 ⟨rfl, hb5⟩
    go_wp2_with fail
    refine lex_go trivial ?_
    repeat (refine lex_q rfl ⟨default, trivial⟩ ?_; go_big_quiet_step (fail); refine wpQuiet_nil ?_)
    have hB5 := hB4.ext hb5
    have hA2 := hB5.drop_ hk (q := cap1 = k) (fun e => by omega)
    generalize (if cap1 = k then a1 else Option.map (fun x => x.add k) a1) = A2 at hA2 ⊢
    refine lex_e rfl ?_
    go_wp2_with fail
    refine (update_any _ _ (l.drop k) _ _ (upd_lt (by omega) _) hA2).mono ?_
    rintro e w6 ⟨rfl, hb6⟩
    rw [upd_append, List.take_append_drop]
    go_wp2_with fail
    refine lex_go trivial ?_
    repeat (refine lex_q rfl ⟨default, trivial⟩ ?_; go_big_quiet_step (fail); refine wpQuiet_nil ?_)
    have hB6 := hB5.ext hb6
    refine lex_e rfl ?_
    go_wp2_with fail
    refine (of_any _ l _ _ hB6).mono ?_
    rintro e w7 ⟨rfl, hb7⟩
    go_wp2_with fail
    refine lex_go trivial ?_
    repeat (refine lex_q rfl ⟨default, trivial⟩ ?_; go_big_quiet_step (fail); refine wpQuiet_nil ?_)
    refine lex_e rfl ?_
    go_wp2_with fail
    refine (update_any s _ [] (fun _ => True) _ hs (Bytes.nil_ _ _)).mono ?_
    rintro e w8 ⟨rfl, hb8⟩
    rw [upd_nil]
    go_wp2_with fail
    refine lex_go trivial ?_
    repeat (refine lex_q rfl ⟨default, trivial⟩ ?_; go_big_quiet_step (fail); refine wpQuiet_nil ?_)
    refine lex_nil ?_
    go_wp2_with fail
    go_ret
    exact ⟨by simp, Below.ext (Below.ext (Below.ext (Below.ext (Below.ext (Below.ext (Below.ext hb1.drew hb2) hb3) hb4) hb5) hb6) hb7) hb8⟩
  · go_wp2_with fail
    go_ret
    exact ⟨rfl, hb1⟩
end Go.Proofs.Ytmakcggmaphanaa.crcJoins
